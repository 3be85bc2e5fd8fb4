/- The Av framework: a state behind a call; code. No law is proved here. -/
import Derived.Test.YtgbgmijighbfbaaGv17
import Derived.LoopN
set_option linter.unusedSimpArgs false
set_option linter.unusedVariables false
set_option linter.unusedSectionVars false
namespace Go.Av

def mergeEnv (E E' : Env) (hp : List AObj) (lent : Bool) : Env :=
  { F := fun b => E'.F b ∧ (lent = true → ¬ Owned E hp b), N := E.N + E'.N,
    ρ := fun i => if i < E.N then E.ρ i else E'.ρ (i - E.N), σ := fun i => if i < E.N then E.σ i else E'.σ (i - E.N),
    κ := fun i => if i < E.N then E.κ i else E'.κ (i - E.N), ω := fun i => if i < E.N then E.ω i else E'.ω (i - E.N) }

section
variable {E0 : Env} {H0 : List AObj} {w0 : World} {E : Env} {s s' : St} {a : Act} {w : World} {P : Program} {T : TT} {o : Oper} {own : Nat → Bool}

theorem After.same {E' : Env} {H' : List AObj} {w' : World} {hp : List AObj} {lent : Bool} (h : After (calleeEnv E hp lent) [] w E' H' w') : Same w w' :=
  ⟨h.keeps.os, h.keeps.tape, h.keeps.output, h.keeps.size, fun b hb => h.keeps.block b hb (fun ⟨id, ⟨o, ho, _⟩, _⟩ => by simp at ho), h.keeps.frz⟩

theorem append_get2 {α : Type} {l m : List α} {y : α} {i : Nat} (h : (l ++ m)[i]? = some y) : (i < l.length ∧ l[i]? = some y) ∨ (l.length ≤ i ∧ m[i - l.length]? = some y) := by
  rcases Nat.lt_or_ge i l.length with g | g
  · rw [List.getElem?_append_left g] at h; exact .inl ⟨g, h⟩
  · rw [List.getElem?_append_right g] at h; exact .inr ⟨g, h⟩

theorem live_append2 {H H' : List AObj} {i : Nat} (h : Live (H ++ H') i) : (i < H.length ∧ Live H i) ∨ (H.length ≤ i ∧ Live H' (i - H.length)) := by
  obtain ⟨o, ho, hn⟩ := h
  rcases append_get2 ho with ⟨g, ho⟩ | ⟨g, ho⟩
  · exact .inl ⟨g, o, ho, hn⟩
  · exact .inr ⟨g, o, ho, hn⟩

/-- An object whose references are moved by a number. -/
def objShift (n : Nat) : AObj → AObj
  | .var cs => bif cs.all (fun c => isCell (shift0 n c)) then .var (cs.map (shift0 n)) else .dead
  | o => o

theorem ObjRep.shift {E' : Env} {n i : Nat} {ob : AObj} (h : ObjRep E w i ob) (hE : E.Shift n E') (hi : i < E.N) : ObjRep E' w (n + i) (objShift n ob) := by
  cases ob with
  | dead => trivial
  | slot => exact ⟨by rw [hE.ρ i hi]; exact h.1, by rw [hE.κ i hi]; exact h.2.1, by rw [hE.ω i hi]; exact h.2.2⟩
  | var cs =>
    show ObjRep E' w (n + i) (bif _ then _ else _)
    cases hb : cs.all (fun c => isCell (shift0 n c)) with
    | false => trivial
    | true =>
      obtain ⟨h0, b, arr, ty, e1, e2, e3, e4⟩ := h
      refine ⟨by rw [hE.ω i hi]; exact h0, b, arr, ty, by rw [hE.ρ i hi]; exact e1, e2, by rw [List.length_map]; exact e3, fun j c hj => ?_⟩
      obtain ⟨c0, hc0, rfl⟩ := getElem?_map_some hj
      obtain ⟨_, v, q1, q2⟩ := e4 j c0 hc0
      exact ⟨List.all_eq_true.1 hb c0 (List.mem_of_getElem? hc0), v, q1, q2.shift0 hE⟩
  | arr sz m row =>
    obtain ⟨g1, g2, g3, g4, g5, g6⟩ := h
    refine ⟨by rw [hE.σ i hi]; exact g1, g2, by rw [hE.κ i hi]; exact g3, by rw [hE.κ i hi]; exact g4, g5, ?_⟩
    rw [hE.ρ i hi, hE.κ i hi, hE.ω i hi]
    cases hρ : E.ρ i with
    | none => rw [hρ] at g6; exact g6
    | some b =>
      rw [hρ] at g6
      obtain ⟨arr, ty, e1, e2, e3⟩ := g6
      exact ⟨arr, ty, e1, e2, fun i' j' c hi hc => by
        obtain ⟨v, q1, q2⟩ := e3 i' j' c hi hc
        exact ⟨v, q1, q2.mono hE.F (fun _ _ => rfl)⟩⟩
  | map es =>
    obtain ⟨b, mes, clock, g0, g1, g2, g3⟩ := h
    exact ⟨b, mes, clock, by rw [hE.ρ i hi]; exact g0, g1, g2, fun k e he => by
      obtain ⟨me, q1, q2, q3⟩ := g3 k e he
      exact ⟨me, q1, q2.mono hE.F (fun _ _ => rfl), q3.mono hE.F (fun _ _ => rfl)⟩⟩

theorem live_shift {H' : List AObj} {n i : Nat} (h : Live (H'.map (objShift n)) i) : Live H' i := by
  obtain ⟨o, ho, hn⟩ := h
  obtain ⟨o', ho', rfl⟩ := getElem?_map_some ho
  exact ⟨o', ho', fun e => by subst e; exact hn rfl⟩

theorem live_append3 {H H' : List AObj} {n i : Nat} (h : Live (H ++ H'.map (objShift n)) i) : (i < H.length ∧ Live H i) ∨ (H.length ≤ i ∧ Live H' (i - H.length)) := by
  rcases live_append2 h with g | ⟨g, q⟩
  · exact .inl g
  · exact .inr ⟨g, live_shift q⟩

/-- The caller's state behind a call that was handed no reference. -/
theorem Models.afterCall (h : Models E0 H0 w0 E s a w) {lent : Bool} {E' : Env} {H' : List AObj} {w' : World} (ha : After (calleeEnv E s.hp lent) [] w E' H' w') (hlent : lent = true → H' = []) :
    Models E0 H0 w0 (mergeEnv E E' s.hp lent) { s with hp := s.hp ++ H'.map (objShift s.hp.length) } a w' ∧ (lent = false → E'.Shift E.N (mergeEnv E E' s.hp lent)) := by
  have hs := ha.same
  have hN := h.heap.len
  have hN' := ha.heap.len
  have hF1 : ∀ b, E.F b → (mergeEnv E E' s.hp lent).F b := fun b hb => ⟨ha.F b (calleeEnv_F E s.hp lent b hb), fun _ ⟨id, hl, hρ⟩ => h.heap.fr id b hl hρ hb⟩
  have hF2 : ∀ b, (mergeEnv E E' s.hp lent).F b → E.F b ∨ w.heap.size ≤ b := fun b ⟨hb, hn⟩ => by
    rcases ha.Fnew b hb with hb | hb
    · have hb : (if lent = true then Lent E s.hp b else E.F b) := hb
      split at hb
      · rename_i hlt
        rcases hb with hb | hb
        · exact .inl hb
        · exact absurd hb (hn hlt)
      · exact .inl hb
    · exact .inr hb
  have hle : E.Le (mergeEnv E E' s.hp lent) := ⟨hF1, Nat.le_add_right _ _, fun i hi => if_pos hi, fun i hi => if_pos hi, fun i hi => if_pos hi, fun i hi => if_pos hi⟩
  have hFw : ∀ b, E.F b → w'.heap[b]? = w.heap[b]? := fun b hb => hs.block b (h.heap.frz b hb)
  have nρ : ∀ i, E.N ≤ i → (mergeEnv E E' s.hp lent).ρ i = E'.ρ (i - E.N) := fun i hi => if_neg (by omega)
  have nσ : ∀ i, E.N ≤ i → (mergeEnv E E' s.hp lent).σ i = E'.σ (i - E.N) := fun i hi => if_neg (by omega)
  have nκ : ∀ i, E.N ≤ i → (mergeEnv E E' s.hp lent).κ i = E'.κ (i - E.N) := fun i hi => if_neg (by omega)
  have nω : ∀ i, E.N ≤ i → (mergeEnv E E' s.hp lent).ω i = E'.ω (i - E.N) := fun i hi => if_neg (by omega)
  have hnew : ∀ i b, Live H' i → E'.ρ i = some b → w.heap.size ≤ b := fun i b hl hb => ha.new i b (Nat.zero_le _) hl hb
  have hlf : ∀ i, Live H' i → lent = false := fun i hl => by
    cases hlt : lent with
    | false => rfl
    | true => have := hlent hlt; subst this; obtain ⟨o, ho, _⟩ := hl; simp at ho
  refine ⟨?_, fun hlf' => ⟨fun b hb => ⟨hb, fun e => by rw [hlf'] at e; cases e⟩, rfl, fun i hi => by rw [nρ _ (Nat.le_add_right _ _), Nat.add_sub_cancel_left], fun i hi => by rw [nσ _ (Nat.le_add_right _ _), Nat.add_sub_cancel_left],
    fun i hi => by rw [nκ _ (Nat.le_add_right _ _), Nat.add_sub_cancel_left], fun i hi => by rw [nω _ (Nat.le_add_right _ _), Nat.add_sub_cancel_left]⟩⟩
  constructor
  · exact h.size
  · intro t; exact (h.tmps t).mono hle hFw
  · refine ⟨by show E.N + E'.N = _; rw [List.length_append, List.length_map, hN, hN'], ?_, ?_, ?_, ?_, ?_⟩
    · intro id ob hid
      rcases append_get2 hid with ⟨g, hid⟩ | ⟨g, hid⟩
      · exact (h.heap.obj id ob hid).mono (by omega) hle hFw (fun hne b hb => hs.block b (h.heap.lt id b ⟨ob, hid, hne⟩ hb))
      · obtain ⟨o', ho', rfl⟩ := getElem?_map_some hid
        have hid2 : id - s.hp.length < E'.N := by have := get_lt ho'; omega
        cases hlt : lent with
        | true => have := hlent hlt; subst this; simp at ho'
        | false =>
          have hsh : E'.Shift E.N (mergeEnv E E' s.hp false) := ⟨fun b hb => ⟨hb, fun e => by cases e⟩, rfl, fun i hi => by show (if _ then _ else _) = _; rw [if_neg (by omega), Nat.add_sub_cancel_left], fun i hi => by show (if _ then _ else _) = _; rw [if_neg (by omega), Nat.add_sub_cancel_left],
            fun i hi => by show (if _ then _ else _) = _; rw [if_neg (by omega), Nat.add_sub_cancel_left], fun i hi => by show (if _ then _ else _) = _; rw [if_neg (by omega), Nat.add_sub_cancel_left]⟩
          have := (ha.heap.obj _ o' ho').shift hsh hid2
          rw [hN, show s.hp.length + (id - s.hp.length) = id by omega] at this
          exact this
    · intro id b hl hb
      rcases live_append3 hl with ⟨g, hl⟩ | ⟨g, hl⟩
      · rw [hle.ρ id (by omega)] at hb; exact Nat.lt_of_lt_of_le (h.heap.lt id b hl hb) hs.size
      · rw [nρ id (by omega), hN] at hb; exact ha.heap.lt _ b hl hb
    · intro id b hl hb hF
      rcases live_append3 hl with ⟨g, hl⟩ | ⟨g, hl⟩
      · rw [hle.ρ id (by omega)] at hb
        rcases hF2 b hF with q | q
        · exact h.heap.fr id b hl hb q
        · have := h.heap.lt id b hl hb; omega
      · rw [nρ id (by omega), hN] at hb; exact ha.heap.fr _ b hl hb hF.1
    · intro i j b hi hj hbi hbj
      rcases live_append3 hi with ⟨gi, hi⟩ | ⟨gi, hi⟩ <;> rcases live_append3 hj with ⟨gj, hj⟩ | ⟨gj, hj⟩
      · rw [hle.ρ i (by omega)] at hbi; rw [hle.ρ j (by omega)] at hbj; exact h.heap.inj i j b hi hj hbi hbj
      · rw [hle.ρ i (by omega)] at hbi; rw [nρ j (by omega), hN] at hbj; have := h.heap.lt i b hi hbi; have := hnew _ b hj hbj; omega
      · rw [hle.ρ j (by omega)] at hbj; rw [nρ i (by omega), hN] at hbi; have := h.heap.lt j b hj hbj; have := hnew _ b hi hbi; omega
      · rw [nρ i (by omega), hN] at hbi; rw [nρ j (by omega), hN] at hbj; have := ha.heap.inj _ _ b hi hj hbi hbj; omega
    · intro b hb; exact ha.heap.frz b hb.1
  · exact ⟨h.base.1, by rw [List.length_append]; have := h.base.2; omega⟩
  · intro id hi hl
    have hb := h.base
    rcases live_append3 hl with ⟨g, hl⟩ | ⟨g, hl⟩
    · obtain ⟨a1, a2, a3, a4, a5⟩ := h.old id hi hl
      exact ⟨a1, by rw [hle.ρ id (by omega)]; exact a2, by rw [hle.σ id (by omega)]; exact a3, by rw [hle.κ id (by omega)]; exact a4, by rw [hle.ω id (by omega)]; exact a5⟩
    · simp only at hi; omega
  · intro id b hi hl hb
    rcases live_append3 hl with ⟨g, hl⟩ | ⟨g, hl⟩
    · rw [hle.ρ id (by omega)] at hb; exact h.new id b hi hl hb
    · rw [nρ id (by omega), hN] at hb; have := hnew _ b hl hb; have := h.keeps.size; omega
  · exact fun b hb => hF1 b (h.F b hb)
  · intro b hb
    rcases hF2 b hb with g | g
    · exact h.Fnew b g
    · exact .inr (Nat.le_trans h.keeps.size g)
  · exact h.keeps.trans (O' := fun _ => False) hs.keeps (fun _ _ h => h.elim)

end

/-! ### regions and code -/

/-- What is left of a call: the callee's number and its arguments. -/
def calleeA (s : St) (f : Operand) (args : List Operand) : Option (FuncId × List AV) :=
  match s.ev f with
  | .clos g a c => some (g, a ++ args.map s.ev ++ c)
  | _ => none

/-- A call that hands no reference on. -/
def callv (P : Program) (dst : Option Nat) (s : St) (f : FuncId) (args : List AV) (K : St → Prop) : Prop :=
  (∃ fn, P.funcs[f]? = some fn ∧ fn.body.isSome = true ∧ fn.name ≠ "runtime.NumGoroutine") ∧ ∃ p, toArgs s.hp args = some p ∧ p.2.1 ∧
    CallsA P f p.1 [] fun r H' => (p.2.2 = true → H' = [] ∧ isScalar r = true) ∧ ∃ s', ({ s with hp := s.hp ++ H'.map (objShift s.hp.length), cond := True } : St).setd dst (shift s.hp.length r) = some s' ∧ K s'

def guardA (ops : Array Oper) (s : St) (o : Oper) : Option Bool :=
  match o.guard with
  | none => some true
  | some (j, want) => match (ops[j]?).bind (·.dst) with
    | some d => match look s.ch d with
      | .bool b => some (b == want)
      | .tup [] => some false
      | _ => none
    | none => none

/-- A comparison of a read slice with nil: if it says nil, there is nothing in the slice. -/
def nilv (T : TT) (o : Oper) (K : St → Prop) (s : St) : Prop :=
  ∃ op t x y u n row ts e, o.op = .binOp op t x y u ∧ (op = .eql ∨ op = .neq) ∧ s.ev x = .list n row ∧ s.ev y = .nilsl ∧ T t = some ts ∧ ts.kind = .slice e ∧
    ∀ b : Bool, (b = true → n = 0) → ∃ s', s.setd o.dst (.bool (if op = .eql then b else !b)) = some s' ∧ K { s' with cond := True }

def opv (P : Program) (T : TT) (own : Nat → Bool) (o : Oper) (K : St → Prop) (s : St) : Prop :=
  match o.op with
  | .call c => match c.callee with
    | .value f => ∃ g, calleeA s f c.args.toList = some g ∧ callv P o.dst s g.1 g.2 K
    | _ => ∃ s', opf T own o s = some s' ∧ s'.cond ∧ K { s' with cond := True }
  | _ => (∃ s', opf T own o s = some s' ∧ s'.cond ∧ K { s' with cond := True }) ∨ nilv T o K s

inductive Relocs : St → St → Prop
  | refl (s) : Relocs s s
  | cons {s s1 s2} (h : Reloc s s1) (t : Relocs s1 s2) : Relocs s s2

theorem Models.relocs {E0 : Env} {H0 : List AObj} {w0 : World} {s s' : St} {a : Act} {w : World} (hr : Relocs s s') : ∀ {E : Env}, Models E0 H0 w0 E s a w → ∃ E', Models E0 H0 w0 E' s' a w := by
  induction hr with
  | refl s => intro E h; exact ⟨E, h⟩
  | cons h t ih => intro E hm; obtain ⟨E1, h1⟩ := hm.reloc h; exact ih h1

def regv (P : Program) (T : TT) (own : Nat → Bool) (ops : Array Oper) : List Oper → (St → Prop) → St → Prop
  | [], K, s => K s
  | o :: os, K, s1 => ∃ s, Relocs s1 s ∧ ∃ g, guardA ops s o = some g ∧
    if g = true then opv P T own o (regv P T own ops os K) s else ∃ s', s.setd o.dst (.tup []) = some s' ∧ regv P T own ops os K s'

/-- The machine's side of a post. -/
def MQ (E0 : Env) (H0 : List AObj) (w0 : World) (Q : Exit → St → Prop) (e : Exit) (a : Act) (w : World) : Prop :=
  a.defers = [] ∧ ∃ s E, Q e s ∧ Models E0 H0 w0 E s a w

/-- Code, from all machines that a state speaks of. -/
def Wp (P : Program) (c : Code) (Q : Exit → St → Prop) (s : St) : Prop :=
  ∀ (E0 : Env) (H0 : List AObj) (w0 : World) (E : Env) (a : Act) (w : World), a.defers = [] → Models E0 H0 w0 E s a w → c.wp P (MQ E0 H0 w0 Q) a w

section
variable {E0 : Env} {H0 : List AObj} {w0 : World} {P : Program} {T : TT} {own : Nat → Bool}

theorem Rep.boolV {E : Env} {w : World} {b : Bool} {x : Value} (h : Rep E w (.bool b) x) : x = .bool b := by
  cases h with
  | fz _ _ h => cases h; rfl

theorem Rep.gone {E : Env} {w : World} : Rep E w (.tup []) Go.undef := .tup [] [] rfl (fun i c h => by simp at h)

theorem guardA_sound {E : Env} {s : St} {a : Act} {w : World} (h : Models E0 H0 w0 E s a w) {ops : Array Oper} {o : Oper} {g : Bool} (hg : guardA ops s o = some g) : Region.wanted o (yielded ops a.tmps) = g := by
  unfold guardA at hg
  unfold Region.wanted
  split at hg
  · rename_i hgu; rw [hgu]; simp only [Option.some.injEq] at hg; exact hg
  · rename_i j want hgu
    rw [hgu]
    split at hg
    · rename_i d hd
      split at hg
      · rename_i b hb
        simp only [Option.some.injEq] at hg
        have ht := h.tmps d
        rw [hb] at ht
        have hv := ht.boolV
        have hlt : a.tmps[d]? = some (.bool b) := by
          by_cases hd : d < a.tmps.size
          · rw [Array.getElem?_eq_getElem hd]; simp [Array.getD, hd] at hv; rw [hv]
          · simp [Array.getD, hd, Go.undef] at hv
        have hy : yielded ops a.tmps j = some b := by
          unfold yielded
          rw [hd]
          simp only [Option.bind_some, hlt]
        simp only
        rw [hy, ← hg]; cases b <;> cases want <;> rfl
      · rename_i hb
        simp only [Option.some.injEq] at hg
        have ht := h.tmps d
        rw [hb] at ht
        have hy : yielded ops a.tmps j = none := by
          unfold yielded
          rw [hd]
          simp only [Option.bind_some]
          have hv : a.tmps.getD d undef = .tuple #[] := by
            generalize a.tmps.getD d undef = x at ht
            cases ht with
            | fz _ _ h => cases h
            | tup _ vs hn h =>
              have : vs = [] := List.eq_nil_of_length_eq_zero hn
              subst this; rfl
          by_cases hds : d < a.tmps.size
          · rw [Array.getElem?_eq_getElem hds]
            have e : a.tmps.getD d undef = a.tmps[d] := by simp [Array.getD, hds]
            rw [e] at hv; rw [hv]
          · rw [Array.getElem?_eq_none (Nat.le_of_not_lt hds)]
        simp only
        rw [hy, ← hg]; cases want <;> rfl
      · cases hg
    · cases hg

theorem put_defers (a : Act) (d : Option Tmp) (v : Value) : (a.put d v).defers = a.defers := by cases d <;> rfl

theorem callv_sound {E : Env} {s : St} {a : Act} {w : World} (h : Models E0 H0 w0 E s a w) {o : Oper} {c : Call} {f : Operand} (ho : o.op = .call c) (hcal : c.callee = .value f)
    {g : FuncId × List AV} (hg : calleeA s f c.args.toList = some g) {K : St → Prop} (hk : callv P o.dst s g.1 g.2 K) {N : Act → World → Prop} {Q : Exit → Act → World → Prop}
    (hn : ∀ s' E' v w', K s' → Models E0 H0 w0 E' s' (a.put o.dst v) w' → N (a.put o.dst v) w') : o.wp P a w N Q := by
  unfold calleeA at hg
  split at hg
  · rename_i fid fa fc hfv
    simp only [Option.some.injEq] at hg; subst hg
    obtain ⟨⟨fn, hfn, hbody, hname⟩, p, hp, hpc, hcalls⟩ := hk
    simp only at hfn hp hcalls
    have hf := h.ev f
    rw [hfv] at hf
    generalize haf : a.eval f = af at hf
    cases hf with
    | fz _ _ hf => cases hf
    | clos _ _ _ xa xc ha1 hc1 h1 h2 =>
      -- the machine's arguments
      have hexec : (execOp a.eval o).run P w = .ok (.enter fid (xa ++ c.args.toList.map a.eval ++ xc).toArray) w := by
        have e1 : xa.toArray ++ Array.map a.eval c.args ++ xc.toArray = (xa ++ c.args.toList.map a.eval ++ xc).toArray := by
          apply Array.ext'; simp
        have hcf : (callFunc fid (xa.toArray ++ Array.map a.eval c.args ++ xc.toArray)).run P w = .ok (.enter fid (xa ++ c.args.toList.map a.eval ++ xc).toArray) w := by
          unfold callFunc
          simp only [Sem.run_bind, run_program, Result.andThen, hfn]
          have hb : fn.body.isNone = false := by cases hbb : fn.body with | none => rw [hbb] at hbody; cases hbody | some _ => rfl
          have hnn : (fn.name == "runtime.NumGoroutine") = false := by simpa using hname
          rw [hnn, hb, e1]
          rfl
        simp only [execOp, ho, resolve, hcal, haf, Deferred.ofValue, Sem.run_bind, Sem.run_pure, Result.andThen, invoke]
        exact hcf
      -- the lent flag
      have hargs := args_rep (s := s) h.heap (lent := p.2.2) (fa ++ c.args.toList.map s.ev ++ fc) (xa ++ c.args.toList.map a.eval ++ xc) p (by simp [ha1, hc1]) (fun i cc hi => by
        rw [List.append_assoc] at hi
        have hsz : (xa ++ c.args.toList.map a.eval ++ xc).getD i default = (xa ++ (c.args.toList.map a.eval ++ xc)).getD i default := by rw [List.append_assoc]
        rw [hsz]
        rcases append_get2 hi with ⟨q, hi⟩ | ⟨q, hi⟩
        · have := h1 i cc hi
          simp only [List.getD] at this ⊢
          rw [List.getElem?_append_left (by omega)]; exact this
        · rcases append_get2 hi with ⟨q2, hi⟩ | ⟨q2, hi⟩
          · obtain ⟨x, hx, rfl⟩ := getElem?_map_some hi
            have hev := h.ev x
            simp only [List.getD]
            rw [List.getElem?_append_right (by omega), List.getElem?_append_left (by simpa [ha1] using q2), ha1, List.getElem?_map, hx]
            simp only [Option.map_some, Option.getD_some]
            exact hev
          · have := h2 (i - fa.length - (c.args.toList.map s.ev).length) cc hi
            simp only [List.getD] at this ⊢
            rw [List.getElem?_append_right (by omega), List.getElem?_append_right (by simp only [List.length_map] at q2 ⊢; omega)]
            simp only [ha1, List.length_map] at this ⊢
            exact this) hp hpc (fun e => e)
      have hcall := hcalls (calleeEnv E s.hp p.2.2) w (xa ++ c.args.toList.map a.eval ++ xc) (calleeEnv_ok (s := s) h.heap p.2.2) hargs
      show o.upon P a N Q ((execOp a.eval o).run P w)
      rw [hexec, Oper.upon_enter]
      refine hcall.mono fun e w' he => ?_
      cases e with
      | returned x =>
        obtain ⟨r, H', E', ⟨hl, s', hs', hK⟩, hr, haft⟩ := he
        obtain ⟨hm, hsh⟩ := h.afterCall haft (fun e => (hl e).1)
        have hrep : Rep (mergeEnv E E' s.hp p.2.2) w' (shift s.hp.length r) x := by
          cases hlt : p.2.2 with
          | false =>
            have := hr.shift (hsh hlt)
            rw [h.heap.len, hlt] at this; exact this
          | true =>
            have hsc := (hl hlt).2
            rw [shift_scalar hsc]
            exact hr.scalar hsc
        exact hn s' _ x w' hK ((hm.cond True).setd hs' (hrep))
      | _ => exact he.elim
  · cases hg

theorem equal_slice_nil {t e : TypeId} {w : World} (hu : P.underlying t = some (.slice e)) (ao : Option Addr) (n c n' c' : Nat) : (Op.equal t (.slice ao n c) (.slice none n' c')).run P w = .ok ao.isNone w := by
  have : ∀ d, (Op.equalIn (d + 1) t (.slice ao n c) (.slice none n' c')).run P w = .ok ao.isNone w := by intro d; cases ao <;> simp [Op.equalIn, run_underlying hu]
  exact this 9999

theorem run_eql_slice_nil' {t e : TypeId} {w : World} (hu : P.underlying t = some (.slice e)) (ao : Option Addr) (n c n' c' : Nat) : (binOp .eql t (.slice ao n c) (.slice none n' c')).run P w = .ok (.bool ao.isNone) w := by
  simp only [binOp, Sem.run_bind, equal_slice_nil hu, Result.andThen, Sem.run_pure]

theorem run_neq_slice_nil' {t e : TypeId} {w : World} (hu : P.underlying t = some (.slice e)) (ao : Option Addr) (n c n' c' : Nat) : (binOp .neq t (.slice ao n c) (.slice none n' c')).run P w = .ok (.bool (!ao.isNone)) w := by
  simp only [binOp, Sem.run_bind, equal_slice_nil hu, Result.andThen, Sem.run_pure]

theorem opv_sound (hT : TTOk P T) {o : Oper} {K : St → Prop} {s : St} (hk : opv P T own o K s) {E : Env} {a : Act} {w : World} (h : Models E0 H0 w0 E s a w)
    {N : Act → World → Prop} {Q : Exit → Act → World → Prop} (hn : ∀ s' E' v w', K s' → Models E0 H0 w0 E' s' (a.put o.dst v) w' → N (a.put o.dst v) w') : o.wp P a w N Q := by
  have pure_case : (∃ s', opf T own o s = some s' ∧ s'.cond ∧ K { s' with cond := True }) → o.wp P a w N Q := by
    rintro ⟨s', hf, hc, hK⟩
    obtain ⟨_, r, w', E', hrun, hr⟩ := opf_sound hT h hf hc
    show o.upon P a N Q ((execOp a.eval o).run P w)
    rw [hrun]
    cases r with
    | value v => exact hn _ E' v w' hK (hr.cond True)
    | skip => exact hn _ E' _ w' hK (hr.cond True)
    | _ => exact hr.elim
  have nil_case : nilv T o K s → o.wp P a w N Q := by
    rintro ⟨op, t, x, y, u, n, row, ts, e, ho, hop, hx, hy, hts, hk, hK⟩
    obtain ⟨_, ⟨i, d, z, hi, hu, hsz, hby, hkk, _⟩⟩ := hT t ts hts
    rw [hk] at hkk; cases hkk
    have rx := h.ev x
    have ry := h.ev y
    rw [hx] at rx; rw [hy] at ry
    obtain ⟨ao, cap, hax, hb⟩ : ∃ (ao : Option Addr) (cap : Nat), a.eval x = .slice ao n cap ∧ (ao.isNone = true → n = 0) := by
      generalize a.eval x = vx at rx
      cases rx with
      | fz _ _ rx =>
        cases rx with
        | empty _ ao cap => exact ⟨ao, cap, rfl, fun _ => rfl⟩
        | list _ _ b o cap => exact ⟨_, cap, rfl, fun hn => by cases hn⟩
    have hay : a.eval y = .slice none 0 0 := by
      generalize a.eval y = vy at ry
      cases ry with
      | fz _ _ ry => cases ry; rfl
    obtain ⟨s', hs', hK⟩ := hK ao.isNone hb
    have hrun : (execOp a.eval o).run P w = .ok (.value (.bool (if op = .eql then ao.isNone else !ao.isNone))) w := by
      rcases hop with rfl | rfl <;> simp [execOp, ho, hax, hay, eqGuard, run_eql_slice_nil' hu, run_neq_slice_nil' hu]
    show o.upon P a N Q ((execOp a.eval o).run P w)
    rw [hrun]
    exact hn _ _ _ w hK ((h.setd hs' (.fz _ _ (.bool _))).cond True)
  unfold opv at hk
  split at hk
  · split at hk
    · obtain ⟨g, hg, hk⟩ := hk
      exact callv_sound h (by assumption) (by assumption) hg hk hn
    · exact pure_case hk
  · rcases hk with hk | hk
    · exact pure_case hk
    · exact nil_case hk

theorem regv_sound (hT : TTOk P T) {ops : Array Oper} {K : St → Prop} {Q : Exit → Act → World → Prop} (hK : ∀ s E a w, K s → a.defers = [] → Models E0 H0 w0 E s a w → Q .normal a w) :
    ∀ (l : List Oper) (i : Nat), ops.toList.drop i = l → ∀ {s : St} {E : Env} {a : Act} {w : World}, regv P T own ops l K s → a.defers = [] → Models E0 H0 w0 E s a w →
      wpOps P ops Q ((List.range ops.size).drop i) a w
  | [], i, hl, s, E, a, w, hr, hd, h => by
    have hi : ops.size ≤ i := by
      have := congrArg List.length hl
      simp at this; omega
    rw [List.drop_eq_nil_of_le (by simpa using hi)]
    exact hK s E a w hr hd h
  | o :: os, i, hl, s, E, a, w, hr, hd, h => by
    have hi : i < ops.size := by
      have := congrArg List.length hl
      simp at this; omega
    have hoi : ops[i]? = some o := by
      have : (ops.toList.drop i)[0]? = some o := by rw [hl]; rfl
      simpa using this
    have hos : ops.toList.drop (i + 1) = os := by
      have := congrArg List.tail hl
      simpa using this
    have hdrop : (List.range ops.size).drop i = i :: (List.range ops.size).drop (i + 1) := by
      rw [List.drop_eq_getElem_cons (by simpa using hi)]; simp
    rw [hdrop]
    simp only [wpOps, hoi]
    obtain ⟨s2, hrl, g, hg, hr⟩ := hr
    obtain ⟨E2, h⟩ := h.relocs hrl
    have hw := guardA_sound h hg
    rw [hw]
    cases g with
    | true =>
      simp only [if_true] at hr ⊢
      exact .inl (opv_sound hT hr h fun s' E' v w' hK' hm => regv_sound hT hK os (i + 1) hos hK' (by rw [put_defers]; exact hd) hm)
    | false =>
      simp only [Bool.false_eq_true, if_false] at hr ⊢
      obtain ⟨s', hs', hr⟩ := hr
      exact regv_sound hT hK os (i + 1) hos hr (by rw [put_defers]; exact hd) (h.setd hs' Rep.gone)

def seqQ (K : St → Prop) (Q : Exit → St → Prop) : Exit → St → Prop
  | .normal, s => K s
  | e, s => Q e s

def blockQ (id : Nat) (Q : Exit → St → Prop) : Exit → St → Prop
  | .exit id', s => if id' = id then Q .normal s else Q (.exit id') s
  | e, s => Q e s

theorem Wp.skip {Q : Exit → St → Prop} {s : St} (h : Q .normal s) : Wp P .skip Q s := fun _ _ _ E _ _ hd hm => wp_skip ⟨hd, s, E, h, hm⟩
theorem Wp.exit {id : Nat} {Q : Exit → St → Prop} {s : St} (h : Q (.exit id) s) : Wp P (.exit id) Q s := fun _ _ _ E _ _ hd hm => wp_exit ⟨hd, s, E, h, hm⟩
theorem Wp.ret {Q : Exit → St → Prop} {s : St} (h : Q .ret s) : Wp P .ret Q s := fun _ _ _ E _ _ hd hm => wp_ret ⟨hd, s, E, h, hm⟩
theorem Wp.label {l : Nat} {Q : Exit → St → Prop} {s : St} (h : Q .normal s) : Wp P (.label l) Q s := fun _ _ _ E _ _ hd hm => wp_label ⟨hd, s, E, h, hm⟩

theorem Wp.mono {c : Code} {Q Q' : Exit → St → Prop} {s : St} (h : Wp P c Q s) (hq : ∀ e s, Q e s → Q' e s) : Wp P c Q' s := fun E0 H0 w0 E a w hd hm =>
  wp_mono (h E0 H0 w0 E a w hd hm) fun _ _ _ ⟨hd', s', E', g, hm'⟩ => ⟨hd', s', E', hq _ _ g, hm'⟩

theorem Wp.monoR {c : Code} {Q Q' : Exit → St → Prop} {s : St} (h : Wp P c Q s) (hq : ∀ e s, Q e s → ∃ s', Reloc s s' ∧ Q' e s') : Wp P c Q' s := fun E0 H0 w0 E a w hd hm =>
  wp_mono (h E0 H0 w0 E a w hd hm) fun _ _ _ ⟨hd', s', E', g, hm'⟩ => by
    obtain ⟨s'', hr, hq'⟩ := hq _ _ g
    obtain ⟨E'', hm''⟩ := hm'.reloc hr
    exact ⟨hd', s'', E'', hq', hm''⟩

theorem Wp.reloc {c : Code} {Q : Exit → St → Prop} {s s' : St} (hr : Reloc s s') (h : Wp P c Q s') : Wp P c Q s := fun E0 H0 w0 E a w hd hm => by
  obtain ⟨E', hm'⟩ := hm.reloc hr
  exact h E0 H0 w0 E' a w hd hm'

theorem Wp.reg (hT : TTOk P T) {id : Nat} {ops : Array Oper} {Q : Exit → St → Prop} {s : St} (h : regv P T own ops ops.toList (Q .normal) s) : Wp P (.region id ops false) Q s := fun E0 H0 w0 E a w hd hm => by
  refine wp_region ?_
  have := regv_sound (Q := MQ E0 H0 w0 Q) hT (fun s E a w hk hd hm => ⟨hd, s, E, hk, hm⟩) ops.toList 0 rfl h hd hm
  simpa using this

theorem Wp.seq {a b : Code} {Q : Exit → St → Prop} {s : St} (h : Wp P a (seqQ (Wp P b Q) Q) s) : Wp P (.seq a b) Q s := fun E0 H0 w0 E c w hd hm => by
  refine wp_seq (wp_mono (h E0 H0 w0 E c w hd hm) fun e a' w' hq => ?_)
  obtain ⟨hd', s', E', hq, hm'⟩ := hq
  cases e with
  | normal => exact hq E0 H0 w0 E' a' w' hd' hm'
  | _ => exact ⟨hd', s', E', hq, hm'⟩

theorem Wp.reg_seq (hT : TTOk P T) {id : Nat} {ops : Array Oper} {b : Code} {Q : Exit → St → Prop} {s : St} (h : regv P T own ops ops.toList (Wp P b Q) s) : Wp P (.seq (.region id ops false) b) Q s := Wp.seq (Wp.reg hT h)

theorem Wp.cond {c : Operand} {x y : Code} {Q : Exit → St → Prop} {s : St} (t : Bool) (ht : s.ev c = .bool t) (h1 : t = true → Wp P x Q s) (h2 : t = false → Wp P y Q s) : Wp P (.cond c x y) Q s := fun E0 H0 w0 E a w hd hm => by
  have hc := hm.ev c
  rw [ht] at hc
  refine wp_cond hc.boolV ?_
  cases t with
  | true => exact h1 rfl E0 H0 w0 E a w hd hm
  | false => exact h2 rfl E0 H0 w0 E a w hd hm

theorem Wp.block {id : Nat} {c : Code} {Q : Exit → St → Prop} {s : St} (h : Wp P c (blockQ id Q) s) : Wp P (.block id c) Q s := fun E0 H0 w0 E a w hd hm => by
  refine wp_block (wp_mono (h E0 H0 w0 E a w hd hm) fun e a' w' hq => ?_)
  obtain ⟨hd', s', E', hq, hm'⟩ := hq
  cases e with
  | exit id' =>
    have hq : if id' = id then Q .normal s' else Q (.exit id') s' := hq
    show if id' = id then _ else _
    split
    · rename_i he; rw [if_pos he] at hq; exact ⟨hd', s', E', hq, hm'⟩
    · rename_i he; rw [if_neg he] at hq; exact ⟨hd', s', E', hq, hm'⟩
  | _ => exact ⟨hd', s', E', hq, hm'⟩

def loopQ {α : Type} (S : α → St) (m : α → Nat) (G : α → Prop) (Q : Exit → St → Prop) (x : α) : Exit → St → Prop
  | .normal, s => ∃ y, G y ∧ m y < m x ∧ Reloc s (S y)
  | e, s => Q e s

/-- A loop whose heads are a family of states. -/
theorem Wp.loop {α : Type} (S : α → St) (m : α → Nat) (G : α → Prop) {c : Code} {Q : Exit → St → Prop} {s : St} (h : ∀ x, G x → Wp P c (loopQ S m G Q x) (S x)) (x : α) (hx : G x) (hr : Reloc s (S x)) : Wp P (.loop c) Q s := by
  have key : ∀ (n : Nat) (x : α), m x < n → G x → ∀ E0 H0 w0 E a w, a.defers = [] → Models E0 H0 w0 E (S x) a w → Code.rounds P c (MQ E0 H0 w0 Q) n a w := by
    intro n
    induction n with
    | zero => intro x hx; omega
    | succ n ih =>
      intro x hx hg E0 H0 w0 E a w hd hm
      rw [rounds_succ]
      refine wp_mono (h x hg E0 H0 w0 E a w hd hm) fun e a' w' hq => ?_
      obtain ⟨hd', s', E', hq, hm'⟩ := hq
      cases e with
      | normal =>
        obtain ⟨y, hy, hlt, hr⟩ := hq
        obtain ⟨E'', hm''⟩ := hm'.reloc hr
        exact ih y (by omega) hy E0 H0 w0 E'' a' w' hd' hm''
      | _ => exact ⟨hd', s', E', hq, hm'⟩
  intro E0 H0 w0 E a w hd hm
  obtain ⟨E', hm'⟩ := hm.reloc hr
  exact wp_loop_rounds (m x + 1) (key (m x + 1) x (by omega) hx E0 H0 w0 E' a w hd hm')

/-! ### functions -/

/-- A function's results. -/
def resOne (T : TT) (s : St) : ResultVar → Option AV
  | .tmp t => some (look s.ch t)
  | .cell p t => (T t).bind fun ts => match look s.ch p with
    | .hptr id 0 0 => match s.hp[id]? with
      | some (.var cs) => bif Nat.ble 1 ts.size && Nat.ble ts.size (cs.take ts.size).length then some (ofCells ts.isAgg (cs.take ts.size)) else none
      | _ => none
    | _ => none

def resAll (T : TT) (s : St) : List ResultVar → Option (List AV)
  | [] => some []
  | r :: rs => (resOne T s r).bind fun v => (resAll T s rs).map fun vs => v :: vs

def resA (T : TT) (s : St) : List ResultVar → Option AV
  | [r] => resOne T s r
  | rs => (resAll T s rs).map AV.tup

theorem resOne_sound (hT : TTOk P T) {E : Env} {s : St} {a : Act} {w : World} (h : Models E0 H0 w0 E s a w) {r : ResultVar} {v : AV} (hr : resOne T s r = some v) :
    ∃ x, ((match r with
      | .tmp t => pure (a.tmps.getD t Go.undef)
      | .cell p t => do loadVar t (← asAddr (a.tmps.getD p Go.undef)) : Sem Value)).run P w = .ok x w ∧ Rep E w v x := by
  cases r with
  | tmp t =>
    simp only [resOne, Option.some.injEq] at hr; subst hr
    exact ⟨_, rfl, h.tmps t⟩
  | cell p t =>
    have ht := h.tmps p
    simp only [resOne, Option.bind_eq_some_iff] at hr
    obtain ⟨ts, hts, hr⟩ := hr
    split at hr
    · rename_i id hd
      rw [hd] at ht
      split at hr
      · rename_i cs hid
        cases hb : (Nat.ble 1 ts.size && Nat.ble ts.size (cs.take ts.size).length) with
        | false => rw [hb] at hr; cases hr
        | true =>
          rw [hb, cond_true, Option.some.injEq] at hr; subst hr
          obtain ⟨h0, blk, arr, ty, g0, g1, g2, g3⟩ := h.heap.obj id _ hid
          rw [Bool.and_eq_true] at hb
          have hpos : 0 < ts.size := Nat.le_of_ble_eq_true hb.1
          have hle : ts.size ≤ cs.length := by
            have := Nat.le_of_ble_eq_true hb.2
            rw [List.length_take] at this; omega
          have hx : a.tmps.getD p Go.undef = .pointer (some ⟨blk, 0, none⟩) := by
            generalize a.tmps.getD p Go.undef = y at ht
            cases ht with
            | fz _ _ ht => cases ht
            | hptr _ _ _ b' hi hb' => rw [g0] at hb'; cases hb'; rw [h0]; simp
          obtain ⟨_, i, dd, z, hi, hu, hsz, _, hk, _⟩ := hT t ts hts
          have hload : (loadCells ⟨blk, 0, none⟩ ts.size).run P w = .ok (arr.toList.take ts.size).toArray w := by
            have := run_loadCells_list (P := P) w ⟨blk, 0, none⟩ (arr.toList.take ts.size) (fun j v hj => by
              rw [List.getElem?_take] at hj
              split at hj
              · rw [addr_add]; simp only [World.cell?, g1, Option.isSome_none, Bool.false_eq_true, if_false, Nat.zero_add]; simpa using hj
              · cases hj)
            rw [show (arr.toList.take ts.size).length = ts.size by rw [List.length_take, Array.length_toList]; omega] at this
            exact this
          cases hagg : ts.isAgg with
          | true =>
            refine ⟨.agg (arr.toList.take ts.size).toArray, ?_, ?_⟩
            · simp only [hx, asAddr, Sem.run_bind, Sem.run_pure, Result.andThen, loadVar, isAgg_run hu hk, hagg, if_true, run_sizeOf (hT t ts hts), hload]
            · refine Rep.agg _ _ (by simp only [List.length_take, Array.length_toList]; omega) fun j c hj => ?_
              rw [List.getElem?_take] at hj
              split at hj
              · rename_i hjl
                obtain ⟨_, v, e1, e2⟩ := g3 j c hj
                simp only [List.getD, List.getElem?_take, hjl, if_true, Array.getElem?_toList, e1]; exact e2
              · cases hj
          | false =>
            have hc0 : cs[0]? = some (cs[0]'(by omega)) := List.getElem?_eq_getElem (by omega)
            obtain ⟨_, v, e1, e2⟩ := g3 0 _ hc0
            refine ⟨v, ?_, ?_⟩
            · have hl : (load ⟨blk, 0, none⟩).run P w = .ok v w := by rw [run_load]; simp only [World.cell?, g1, Option.isSome_none, Bool.false_eq_true, if_false, e1]
              simp only [hx, asAddr, Sem.run_bind, Sem.run_pure, Result.andThen, loadVar, isAgg_run hu hk, hagg, Bool.false_eq_true, if_false, hl]
            · have : ofCells false (cs.take ts.size) = cs[0]'(by omega) := by
                show (cs.take ts.size).headD .undef = _
                cases cs with
                | nil => simp at hle; omega
                | cons c rest => cases hsz2 : ts.size with | zero => omega | succ k => rfl
              rw [this]; exact e2
      · cases hr
    · cases hr

theorem resAll_sound (hT : TTOk P T) {E : Env} {s : St} {a : Act} {w : World} (h : Models E0 H0 w0 E s a w) : ∀ (rs : List ResultVar) (vs : List AV), resAll T s rs = some vs →
    ∃ xs : List Value, (rs.mapM fun (r : ResultVar) => (match r with
      | .tmp t => pure (a.tmps.getD t Go.undef)
      | .cell p t => do loadVar t (← asAddr (a.tmps.getD p Go.undef)) : Sem Value)).run P w = .ok xs w ∧ xs.length = vs.length ∧ ∀ (i : Nat) c, vs[i]? = some c → Rep E w c (xs.getD i default)
  | [], vs, hv => by
    simp only [resAll, Option.some.injEq] at hv; subst hv
    exact ⟨[], rfl, rfl, fun i c hi => by simp at hi⟩
  | r :: rs, vs, hv => by
    simp only [resAll, Option.bind_eq_some_iff, Option.map_eq_some_iff] at hv
    obtain ⟨v, hr, vs', hvs, rfl⟩ := hv
    obtain ⟨x, h1, h2⟩ := resOne_sound hT h hr
    obtain ⟨xs, h3, h4, h5⟩ := resAll_sound hT h rs vs' hvs
    refine ⟨x :: xs, ?_, by simp [h4], fun i c hi => ?_⟩
    · rw [List.mapM_cons, Sem.run_bind, h1]
      simp only [Result.andThen, Sem.run_bind, h3, Sem.run_pure]
    · cases i with
      | zero => simp at hi; subst hi; exact h2
      | succ i => simpa using h5 i c (by simpa using hi)

theorem resA_sound (hT : TTOk P T) {E : Env} {s : St} {a : Act} {w : World} (h : Models E0 H0 w0 E s a w) {fn : Func} {v : AV} (hr : resA T s fn.results.toList = some v) :
    ∃ x, (results fn a.tmps).run P w = .ok x w ∧ Rep E w v x := by
  have hmap : (results fn a.tmps).run P w = ((fn.results.toList.mapM fun (r : ResultVar) => (match r with
      | .tmp t => pure (a.tmps.getD t Go.undef)
      | .cell p t => do loadVar t (← asAddr (a.tmps.getD p Go.undef)) : Sem Value)).run P w).andThen fun xs w => .ok (if h : xs.toArray.size = 1 then xs.toArray[0] else .tuple xs.toArray) w := by
    unfold results
    rw [Array.mapM_eq_mapM_toList]
    simp only [Sem.run_bind, Sem.run_map, Sem.run_pure]
    generalize (fn.results.toList.mapM _ : Sem (List Value)).run P w = R
    cases R <;> rfl
  rw [hmap]
  unfold resA at hr
  split at hr
  · rename_i r hrs
    obtain ⟨x, h1, h2⟩ := resOne_sound hT h hr
    refine ⟨x, ?_, h2⟩
    rw [hrs, List.mapM_cons, Sem.run_bind, h1]
    simp [Result.andThen]
  · rename_i rs hne
    simp only [Option.map_eq_some_iff] at hr
    obtain ⟨vs, hvs, rfl⟩ := hr
    obtain ⟨xs, h3, h4, h5⟩ := resAll_sound hT h _ vs hvs
    have hlen : ∀ (rs : List ResultVar) (vs : List AV), resAll T s rs = some vs → vs.length = rs.length := by
      intro rs
      induction rs with
      | nil => intro vs hv; simp only [resAll, Option.some.injEq] at hv; subst hv; rfl
      | cons r rs ih =>
        intro vs hv
        simp only [resAll, Option.bind_eq_some_iff, Option.map_eq_some_iff] at hv
        obtain ⟨v, _, vs', hvs, rfl⟩ := hv
        simp [ih vs' hvs]
    have hn1 : xs.length ≠ 1 := by
      rw [h4, hlen _ _ hvs]
      intro e
      match hrs : fn.results.toList, e with
      | [r], _ => exact hne r hrs
    refine ⟨.tuple xs.toArray, ?_, .tup vs xs h4 h5⟩
    rw [h3]
    simp only [Result.andThen, List.size_toArray]
    rw [dif_neg hn1]

def argsCh : Nat → List AV → List (Nat × AV)
  | _, [] => []
  | i, v :: vs => (i, v) :: argsCh (i + 1) vs

theorem look_args : ∀ (vs : List AV) (i t : Nat), look (argsCh i vs) t = if i ≤ t ∧ t < i + vs.length then vs.getD (t - i) .undef else .undef
  | [], i, t => by rw [if_neg (by simp only [List.length_nil]; omega)]; rfl
  | v :: vs, i, t => by
    rw [argsCh, look_val]
    by_cases h : i = t
    · subst h; rw [if_pos rfl, if_pos (by simp), Nat.sub_self]; rfl
    · rw [if_neg h, look_args vs (i + 1) t]
      by_cases h2 : i + 1 ≤ t ∧ t < i + 1 + vs.length
      · rw [if_pos h2, if_pos (by simp; omega)]
        rw [show t - i = (t - (i + 1)) + 1 by omega]; simp [List.getD]
      · rw [if_neg h2, if_neg (by simp; omega)]

/-- What a function's end must show: the results, then what is handed on of the heap. -/
def endQ (T : TT) (rs : List ResultVar) (base : Nat) (K : AV → List AObj → Prop) (e : Exit) (s : St) : Prop :=
  (e = .normal ∨ e = .ret) ∧ ∃ v, resA T s rs = some v ∧ ∃ L r H', RelocH L base s.hp H' ∧ AvLe s.hp L base v r ∧ K r H'

theorem callsA_of (hT : TTOk P T) {f : FuncId} {fn : Func} {c : Code} (hf : P.funcs[f]? = some fn) (hb : fn.body = some c) {n : Nat} (hn : fn.ntmps = n) {rs : List ResultVar} (hrs : fn.results.toList = rs)
    {args : List AV} {H : List AObj} {K : AV → List AObj → Prop} (hlen : args.length ≤ n)
    (h : Wp P c (endQ T rs H.length K) { ch := argsCh 0 args, hp := H, base := H.length, n := n, cond := True }) : CallsA P f args H K := by
  intro E w vals hh ha
  refine calls_of_wp hf hb ?_
  have hm : Models E H w E { ch := argsCh 0 args, hp := H, base := H.length, n := n, cond := True } { tmps := vals.toArray ++ Array.replicate (fn.ntmps - vals.toArray.size) Go.undef, defers := [] } w := by
    have hl := ha.1
    refine ⟨?_, fun t => ?_, hh, ⟨rfl, Nat.le_refl _⟩, fun id _ hl => ⟨hl, rfl, rfl, rfl, rfl⟩, ?_, fun _ h => h, fun _ h => .inl h, Keeps.refl _ _⟩
    · simp only [Array.size_append, List.size_toArray, Array.size_replicate, hn]; omega
    · simp only
      rw [look_args]
      split
      · rename_i ht
        have ht' : t < vals.length := by omega
        have hta : t < args.length := by omega
        have := ha.2 t args[t] (List.getElem?_eq_getElem hta)
        rw [show args.getD (t - 0) .undef = args[t] by simp [List.getD, hta]]
        have e : (vals.toArray ++ Array.replicate (fn.ntmps - vals.toArray.size) Go.undef).getD t Go.undef = vals.getD t default := by
          simp [Array.getD, List.getD, ht', Array.getElem_append_left]
          intro hx; omega
        rw [e]; exact this
      · exact Rep.undef _
    · intro id b hi hl; have hl2 : id < H.length := live_lt hl; have hi2 : H.length ≤ id := hi; omega
  refine wp_mono (h E H w _ _ _ rfl hm) fun e a' w' hq => ?_
  obtain ⟨hd, s', E', ⟨he, v, hv, L, r, H', hl, hle, hK⟩, hm'⟩ := hq
  subst hrs
  obtain ⟨x, h1, h2⟩ := resA_sound hT hm' hv
  have hb' : s'.base = H.length := hm'.base.1
  rw [← hb'] at hl hle
  have hk := hm'.relocOk hl
  have hafter : After E H w (renv E' L s'.base s'.hp H') H' w' :=
    ⟨hk.heap, hm'.keeps, hk.F, hk.Fnew, hk.len, fun id hi hv => hk.old id (by rw [hb']; exact hi) hv, fun id b hi hv hb => hk.new id b (by rw [hb']; exact hi) hv hb⟩
  have hrep := reloc_rep hm'.heap hl hle h2
  rcases he with rfl | rfl
  · exact ⟨hd, x, h1, r, H', _, hK, hrep, hafter⟩
  · exact ⟨hd, x, h1, r, H', _, hK, hrep, hafter⟩

/-- A contract's result restated. -/
theorem CallsA.restate {f : FuncId} {args : List AV} {K K' : AV → List AObj → Prop} (h : CallsA P f args [] K)
    (hk : ∀ r H', K r H' → ∃ L r' H'', RelocH L 0 H' H'' ∧ AvLe H' L 0 r r' ∧ K' r' H'') : CallsA P f args [] K' := by
  intro E w vals hh ha
  refine (h E w vals hh ha).mono fun e w' he => ?_
  cases e with
  | returned x =>
    obtain ⟨r, H', E', hK, hr, haf⟩ := he
    obtain ⟨L, r', H'', hl, hle, hK'⟩ := hk r H' hK
    refine ⟨r', H'', renv E' L 0 H' H'', hK', reloc_rep haf.heap hl hle hr, reloc_heap haf.heap hl, haf.keeps, fun b hb => .inl (haf.F b hb), fun b hb => ?_, Nat.zero_le _, fun id hi => by simp at hi, fun id b _ hv hb => ?_⟩
    · rcases hb with hb | ⟨id, _, hv, _, hρ⟩
      · exact haf.Fnew b hb
      · exact .inr (haf.new id b (Nat.zero_le _) hv hρ)
    · obtain ⟨id', g1, g2, g3⟩ := reloc_blk hl hv hb
      exact haf.new id' b (Nat.zero_le _) g2 g3
  | _ => exact he

/-- Nothing is handed on of the heap. -/
theorem relocH_nil {hp : List AObj} : RelocH [] 0 hp [] := ⟨rfl, Nat.le_refl _, fun i hi => by omega, fun i j id hi => by simp at hi, fun i o ho => by simp at ho⟩

end
end Go.Av

/- The Av framework: a state restated. No law is proved here. -/
import Derived.Test.YtaebdeidbibfkaaGreatDoorWAvM3
set_option linter.unusedSimpArgs false
set_option linter.unusedVariables false
set_option linter.unusedSectionVars false
namespace Go.Av
variable [Drawn]

/-- What a value becomes when objects are renamed, dropped or frozen. -/
inductive AvLe (hp : List AObj) (L : List (Option Nat)) (base : Nat) : AV → AV → Prop
  | undef (v) : AvLe hp L base v .undef
  | refl (v) (h : isFree v = true) : AvLe hp L base v v
  | sl (id id' b n) (h : L[id']? = some (some id)) : AvLe hp L base (.sl id b n) (.sl id' b n)
  | hptr (id id' x o) (h : L[id']? = some (some id)) : AvLe hp L base (.hptr id x o) (.hptr id' x o)
  | mp (id id') (h : L[id']? = some (some id)) : AvLe hp L base (.mp id) (.mp id')
  | frz (id b n sz m) (row row' : Nat → List AV) (h : hp[id]? = some (.arr sz m row)) (hb : base ≤ id) (hL : some id ∉ L) (hn : b + n ≤ m)
      (hr : ∀ i, i < n → row (b + i) = row' i) : AvLe hp L base (.sl id b n) (.list n row')
  | list (n) (row row' : Nat → List AV) (h : ∀ i, i < n → row i = row' i) : AvLe hp L base (.list n row) (.list n row')
  | nil (row : Nat → List AV) : AvLe hp L base .nilsl (.list 0 row)
  | znil (row : Nat → List AV) : AvLe hp L base .zsl (.list 0 row)
  | ghost (id) (h : L[id]? = some none) : AvLe hp L base .nilsl (.sl id 0 0)
  | zghost (id) (h : L[id]? = some none) : AvLe hp L base .zsl (.sl id 0 0)
  | agg (cs cs' : List AV) (hn : cs'.length = cs.length) (h : ∀ (i : Nat) (c c' : AV), cs[i]? = some c → cs'[i]? = some c' → AvLe hp L base c c') : AvLe hp L base (.agg cs) (.agg cs')
  | tup (cs cs' : List AV) (hn : cs'.length = cs.length) (h : ∀ (i : Nat) (c c' : AV), cs[i]? = some c → cs'[i]? = some c' → AvLe hp L base c c') : AvLe hp L base (.tup cs) (.tup cs')
  | clos (f : FuncId) (a c a' c' : List AV) (ha : a'.length = a.length) (hc : c'.length = c.length)
      (h1 : ∀ (i : Nat) (u v : AV), a[i]? = some u → a'[i]? = some v → AvLe hp L base u v) (h2 : ∀ (i : Nat) (u v : AV), c[i]? = some u → c'[i]? = some v → AvLe hp L base u v) : AvLe hp L base (.clos f a c) (.clos f a' c')

def ObjLe (hp : List AObj) (L : List (Option Nat)) (base i : Nat) : AObj → Prop
  | .dead => True
  | .slot => L[i]? = some none
  | .arr sz n row' => (L[i]? = some none ∧ n = 0 ∧ 0 < sz) ∨ ∃ id m row, L[i]? = some (some id) ∧ hp[id]? = some (.arr sz m row) ∧ n ≤ m ∧ ∀ k, k < n → row k = row' k
  | .var cs' => ∃ id cs, L[i]? = some (some id) ∧ hp[id]? = some (.var cs) ∧ cs'.length = cs.length ∧ ∀ (j : Nat) c c', cs[j]? = some c → cs'[j]? = some c' → isCell c' = true ∧ AvLe hp L base c c'
  | .map es => ∃ id, L[i]? = some (some id) ∧ hp[id]? = some (.map es)
  | .siter s p => ∃ id, L[i]? = some (some id) ∧ hp[id]? = some (.siter s p)
  | .miter cur left => ∃ id c, L[i]? = some (some id) ∧ hp[id]? = some (.miter c left) ∧ (cur = none ∨ cur = c)
  | .raw o => ∃ id, L[i]? = some (some id) ∧ hp[id]? = some (.raw o)

structure RelocH (L : List (Option Nat)) (base : Nat) (hp hp' : List AObj) : Prop where
  len : hp'.length = L.length
  le : base ≤ L.length
  low : ∀ i : Nat, i < base → L[i]? = some (some i)
  inj : ∀ (i j id : Nat), L[i]? = some (some id) → L[j]? = some (some id) → Live hp' i → Live hp' j → i = j
  obj : ∀ (i : Nat) o', hp'[i]? = some o' → ObjLe hp L base i o'

def kept (L : List (Option Nat)) (i : Nat) : Option Nat := match L[i]? with
  | some (some id) => some id
  | _ => none

theorem kept_some {L : List (Option Nat)} {i id : Nat} (h : L[i]? = some (some id)) : kept L i = some id := by unfold kept; rw [h]
theorem kept_ghost {L : List (Option Nat)} {i : Nat} (h : L[i]? = some none) : kept L i = none := by unfold kept; rw [h]
theorem kept_eq {L : List (Option Nat)} {i id : Nat} (h : kept L i = some id) : L[i]? = some (some id) := by
  unfold kept at h; split at h
  · cases h; assumption
  · cases h

def renv (E : Env) (L : List (Option Nat)) (base : Nat) (hp hp' : List AObj) : Env where
  F b := E.F b ∨ ∃ id, base ≤ id ∧ Live hp id ∧ some id ∉ L ∧ E.ρ id = some b
  N := L.length
  ρ i := (kept L i).bind E.ρ
  σ i := match kept L i with
    | some id => E.σ id
    | none => match hp'[i]? with
      | some (.arr sz _ _) => sz
      | _ => 0
  κ i := match kept L i with | some id => E.κ id | none => 0
  ω i := match kept L i with | some id => E.ω id | none => 0

section
variable {E : Env} {w : World} {hp hp' : List AObj} {L : List (Option Nat)} {base : Nat}

theorem reloc_rep (h : HeapOk E hp w) (hl : RelocH L base hp hp') {v v' : AV} (hle : AvLe hp L base v v') : ∀ {x : Value}, Rep E w v x → Rep (renv E L base hp hp') w v' x := by
  have hF : ∀ b, E.F b → (renv E L base hp hp').F b := fun b hb => .inl hb
  have hN : ∀ {i id : Nat}, L[i]? = some (some id) → i < (renv E L base hp hp').N := fun hi => get_lt hi
  have hρ : ∀ {i id : Nat}, L[i]? = some (some id) → (renv E L base hp hp').ρ i = E.ρ id := fun hi => by show (kept L _).bind E.ρ = _; rw [kept_some hi]; rfl
  have hσ : ∀ {i id : Nat}, L[i]? = some (some id) → (renv E L base hp hp').σ i = E.σ id := fun hi => by simp only [renv, kept_some hi]
  have hκ : ∀ {i id : Nat}, L[i]? = some (some id) → (renv E L base hp hp').κ i = E.κ id := fun hi => by simp only [renv, kept_some hi]
  have hω : ∀ {i id : Nat}, L[i]? = some (some id) → (renv E L base hp hp').ω i = E.ω id := fun hi => by simp only [renv, kept_some hi]
  induction hle with
  | undef v => intro x _; exact .undef x
  | refl v hv => intro x hx; exact .fz _ _ ((hx.toF hv).mono hF (fun _ _ => rfl))
  | sl id id' b n hL =>
    intro x hx
    cases hx with
    | fz _ _ hx => cases hx
    | sl _ _ _ av hi hle ha =>
      rw [← hκ hL]
      exact .sl id' b n av (hN hL) (by rw [hκ hL]; exact hle) (by rw [hκ hL, hρ hL, hσ hL, hω hL]; exact ha)
  | hptr id id' i o hL =>
    intro x hx
    cases hx with
    | fz _ _ hx => cases hx
    | hptr _ _ _ b hi hb =>
      rw [← hσ hL, ← hω hL]
      exact .hptr id' i o b (hN hL) (by rw [hρ hL]; exact hb)
  | mp id id' hL =>
    intro x hx
    cases hx with
    | fz _ _ hx => cases hx
    | mp _ b hi hb => exact .mp id' b (hN hL) (by rw [hρ hL]; exact hb)
  | frz id b n sz m row row' hid hb hL hn hr =>
    intro x hx
    exact .fz _ _ ((sl_frozen (h.obj id _ hid) hx hn hF (fun blk hblk => .inr ⟨id, hb, ⟨_, hid, by simp⟩, hL, hblk⟩)).congr hr)
  | list n row row' hr => intro x hx; exact .fz _ _ (((hx.toF rfl).congr hr).mono hF (fun _ _ => rfl))
  | nil row =>
    intro x hx
    cases hx with
    | fz _ _ hx => cases hx; exact .fz _ _ (.empty _ _ _)
  | znil row =>
    intro x hx
    cases hx with
    | fz _ _ hx => cases hx; exact .fz _ _ (.empty _ _ _)
  | ghost id hL =>
    intro x hx
    have hk : (renv E L base hp hp').κ id = 0 := by simp only [renv, kept_ghost hL]
    cases hx with
    | fz _ _ hx =>
      cases hx
      have := Rep.sl (E := renv E L base hp hp') (w := w) id 0 0 none (get_lt hL) (by rw [hk]; omega) (by rw [hk]; omega)
      rw [hk] at this; exact this
  | zghost id hL =>
    intro x hx
    have hk : (renv E L base hp hp').κ id = 0 := by simp only [renv, kept_ghost hL]
    cases hx with
    | fz _ _ hx =>
      cases hx with
      | zsl a =>
        have := Rep.sl (E := renv E L base hp hp') (w := w) id 0 0 a (get_lt hL) (by rw [hk]; omega) (by rw [hk]; omega)
        rw [hk] at this; exact this
  | agg cs cs' hn hh ih =>
    intro x hx
    cases hx with
    | fz _ _ hx => cases hx
    | agg _ vs hv hr =>
      refine .agg cs' vs (by omega) fun i c' hc' => ?_
      have hi : i < cs.length := by have := get_lt hc'; omega
      exact ih i _ c' (List.getElem?_eq_getElem hi) hc' (hr i _ (List.getElem?_eq_getElem hi))
  | tup cs cs' hn hh ih =>
    intro x hx
    cases hx with
    | fz _ _ hx => cases hx
    | tup _ vs hv hr =>
      refine .tup cs' vs (by omega) fun i c' hc' => ?_
      have hi : i < cs.length := by have := get_lt hc'; omega
      exact ih i _ c' (List.getElem?_eq_getElem hi) hc' (hr i _ (List.getElem?_eq_getElem hi))
  | clos f a c a' c' ha hc h1 h2 ih1 ih2 =>
    intro x hx
    cases hx with
    | fz _ _ hx => cases hx
    | clos _ _ _ xa xc hxa hxc g1 g2 =>
      refine .clos f a' c' xa xc (by omega) (by omega) (fun i v hv => ?_) (fun i v hv => ?_)
      · have hi : i < a.length := by have := get_lt hv; omega
        exact ih1 i _ v (List.getElem?_eq_getElem hi) hv (g1 i _ (List.getElem?_eq_getElem hi))
      · have hi : i < c.length := by have := get_lt hv; omega
        exact ih2 i _ v (List.getElem?_eq_getElem hi) hv (g2 i _ (List.getElem?_eq_getElem hi))

theorem reloc_live (hl : RelocH L base hp hp') {i : Nat} (hv : Live hp' i) : L[i]? = some none ∨ ∃ id, L[i]? = some (some id) ∧ Live hp id := by
  obtain ⟨o, ho, hn⟩ := hv
  have := hl.obj i o ho
  cases o with
  | dead => exact absurd rfl hn
  | slot => exact .inl this
  | arr sz n row =>
    rcases this with ⟨g, _⟩ | ⟨id, m, row, g1, g2, _⟩
    · exact .inl g
    · exact .inr ⟨id, g1, _, g2, by simp⟩
  | var cs => obtain ⟨id, cs, g1, g2, _⟩ := this; exact .inr ⟨id, g1, _, g2, by simp⟩
  | map es => obtain ⟨id, g1, g2⟩ := this; exact .inr ⟨id, g1, _, g2, by simp⟩
  | siter s p => obtain ⟨id, g1, g2⟩ := this; exact .inr ⟨id, g1, _, g2, by simp⟩
  | miter cur left => obtain ⟨id, c, g1, g2, _⟩ := this; exact .inr ⟨id, g1, _, g2, by simp⟩
  | raw o => obtain ⟨id, g1, g2⟩ := this; exact .inr ⟨id, g1, _, g2, by simp⟩

theorem reloc_blk (hl : RelocH L base hp hp') {i b : Nat} (hv : Live hp' i) (hb : (renv E L base hp hp').ρ i = some b) : ∃ id, L[i]? = some (some id) ∧ Live hp id ∧ E.ρ id = some b := by
  rcases reloc_live hl hv with g | ⟨id, g, q⟩
  · simp only [renv, kept_ghost g] at hb; cases hb
  · simp only [renv, kept_some g] at hb; exact ⟨id, g, q, hb⟩

theorem reloc_heap (h : HeapOk E hp w) (hl : RelocH L base hp hp') : HeapOk (renv E L base hp hp') hp' w where
  len := hl.len.symm
  obj i o' ho := by
    have hF : ∀ b, E.F b → (renv E L base hp hp').F b := fun b hb => .inl hb
    have := hl.obj i o' ho
    cases o' with
    | dead => trivial
    | slot => exact ⟨by simp only [renv, kept_ghost this]; rfl, by simp only [renv, kept_ghost this], by simp only [renv, kept_ghost this]⟩
    | arr sz n row' =>
      rcases this with ⟨g, g2, g3⟩ | ⟨id, m, row, g1, g2, g3, g4⟩
      · subst g2
        refine ⟨by simp only [renv, kept_ghost g, ho], g3, Nat.zero_le _, by simp only [renv, kept_ghost g]; decide, fun i hi => by omega, ?_⟩
        have : (renv E L base hp hp').ρ i = none := by simp only [renv, kept_ghost g]; rfl
        rw [this]; exact ⟨rfl, by simp only [renv, kept_ghost g]⟩
      · obtain ⟨e1, e2, e3, e4, e5, e6⟩ := h.obj id _ g2
        have hρ : (renv E L base hp hp').ρ i = E.ρ id := by simp only [renv, kept_some g1]; rfl
        have hσ : (renv E L base hp hp').σ i = E.σ id := by simp only [renv, kept_some g1]
        have hκ : (renv E L base hp hp').κ i = E.κ id := by simp only [renv, kept_some g1]
        have hω : (renv E L base hp hp').ω i = E.ω id := by simp only [renv, kept_some g1]
        refine ⟨by rw [hσ]; exact e1, e2, by rw [hκ]; omega, by rw [hκ]; exact e4, fun k hk => by rw [← g4 k hk]; exact e5 k (by omega), ?_⟩
        rw [hρ, hκ, hω]
        cases hr : E.ρ id with
        | none => rw [hr] at e6; exact ⟨by omega, e6.2⟩
        | some b =>
          rw [hr] at e6
          obtain ⟨arr, ty, f1, f2, f3⟩ := e6
          refine ⟨arr, ty, f1, f2, fun k j c hk hc => ?_⟩
          obtain ⟨v, q1, q2⟩ := f3 k j c (by omega) (by rw [g4 k hk]; exact hc)
          exact ⟨v, q1, q2.mono hF (fun _ _ => rfl)⟩
    | var cs' =>
      obtain ⟨id, cs, g1, g2, g3, g4⟩ := this
      obtain ⟨h0, b, arr, ty, e1, e2, e3, e4⟩ := h.obj id _ g2
      refine ⟨by simp only [renv, kept_some g1]; exact h0, b, arr, ty, by simp only [renv, kept_some g1]; exact e1, e2, by omega, fun j c' hj => ?_⟩
      have hjl : j < cs.length := by have := get_lt hj; omega
      have hc := List.getElem?_eq_getElem hjl
      obtain ⟨q1, q2⟩ := g4 j _ c' hc hj
      obtain ⟨_, v, r1, r2⟩ := e4 j _ hc
      exact ⟨q1, v, r1, reloc_rep h hl q2 r2⟩
    | miter cur left =>
      obtain ⟨id, c, g1, g2, hcur⟩ := this
      obtain ⟨k, m, si, se, la, e0, e1, q1, e2, e3⟩ := h.obj id _ g2
      exact ⟨k, m, si, se, la, by simp only [renv, kept_some g1]; exact e0, e1, (q1.mono hF (fun _ _ => rfl)).cur hcur, by simp only [renv, kept_some g1]; exact e2, by simp only [renv, kept_some g1]; exact e3⟩
    | siter s p =>
      obtain ⟨id, g1, g2⟩ := this
      obtain ⟨k, e0, e1, e2, e3⟩ := h.obj id _ g2
      exact ⟨k, by simp only [renv, kept_some g1]; exact e0, e1, by simp only [renv, kept_some g1]; exact e2, by simp only [renv, kept_some g1]; exact e3⟩
    | raw o =>
      obtain ⟨id, g1, g2⟩ := this
      obtain ⟨g, k, e0, e1, e2, e3⟩ := h.obj id _ g2
      exact ⟨g, k, by simp only [renv, kept_some g1]; exact e0, e1, by simp only [renv, kept_some g1]; exact e2, by simp only [renv, kept_some g1]; exact e3⟩
    | map es =>
      obtain ⟨id, g1, g2⟩ := this
      obtain ⟨b, mes, clock, e0, e1, e2, e3, e4⟩ := h.obj id _ g2
      refine ⟨b, mes, clock, by simp only [renv, kept_some g1]; exact e0, e1, e2, fun k e he => ?_, e4⟩
      obtain ⟨me, q1, q2, q3⟩ := e3 k e he
      exact ⟨me, q1, q2.mono hF (fun _ _ => rfl), q3.mono hF (fun _ _ => rfl)⟩
  lt i b hv hb := by obtain ⟨id, _, g2, g3⟩ := reloc_blk hl hv hb; exact h.lt id b g2 g3
  fr i b hv hb hF := by
    obtain ⟨id, g1, g2, g3⟩ := reloc_blk hl hv hb
    rcases hF with hF | ⟨id', q1, q2, q3, q4⟩
    · exact h.fr id b g2 g3 hF
    · have := h.inj id id' b g2 q2 g3 q4
      subst this; exact q3 (List.mem_of_getElem? g1)
  inj i j b hi hj hbi hbj := by
    obtain ⟨id, g1, g2, g3⟩ := reloc_blk hl hi hbi
    obtain ⟨id', q1, q2, q3⟩ := reloc_blk hl hj hbj
    have := h.inj id id' b g2 q2 g3 q3
    subst this; exact hl.inj i j id g1 q1 hi hj
  frz b hF := by
    rcases hF with hF | ⟨id', q1, q2, q3, q4⟩
    · exact h.frz b hF
    · exact h.lt id' b q2 q4

/-- The parts of a state that a function's end hands on. -/
structure RelocOk (E0 : Env) (H0 : List AObj) (w0 : World) (E E' : Env) (hp' : List AObj) (base : Nat) (w : World) : Prop where
  heap : HeapOk E' hp' w
  len : H0.length ≤ hp'.length
  old : ∀ id, id < base → (Live hp' id → Live H0 id) ∧ E'.ρ id = E0.ρ id ∧ E'.σ id = E0.σ id ∧ E'.κ id = E0.κ id ∧ E'.ω id = E0.ω id
  new : ∀ id b, base ≤ id → Live hp' id → E'.ρ id = some b → w0.heap.size ≤ b ∨ Owned E0 H0 b
  F : ∀ b, E0.F b → E'.F b
  Fnew : ∀ b, E'.F b → E0.F b ∨ w0.heap.size ≤ b ∨ Owned E0 H0 b

end

section
variable {E0 : Env} {H0 : List AObj} {w0 : World} {E : Env} {s s' : St} {a : Act} {w : World}

/-- A live object's block is new, or was handed in. -/
theorem Models.own (h : Models E0 H0 w0 E s a w) {id b : Nat} (hv : Live s.hp id) (hb : E.ρ id = some b) : w0.heap.size ≤ b ∨ Owned E0 H0 b := by
  rcases Nat.lt_or_ge id s.base with q | q
  · obtain ⟨a1, a2, _⟩ := h.old id q
    exact .inr ⟨id, a1 hv, by rw [← a2]; exact hb⟩
  · exact h.new id b q hv hb

theorem Models.relocOk (h : Models E0 H0 w0 E s a w) {L : List (Option Nat)} {hp' : List AObj} (hl : RelocH L s.base s.hp hp') :
    RelocOk E0 H0 w0 E (renv E L s.base s.hp hp') hp' s.base w where
  heap := reloc_heap h.heap hl
  len := by have := hl.len; have := hl.le; have := h.base.1; omega
  old id hi := by
    have hL := hl.low id hi
    obtain ⟨g1, g2, g3, g4, g5⟩ := h.old id hi
    refine ⟨fun hv => ?_, ?_, ?_, ?_, ?_⟩
    · rcases reloc_live hl hv with g | ⟨id', g, q⟩
      · rw [g] at hL; cases hL
      · rw [g] at hL; cases hL; exact g1 q
    all_goals simp only [renv, kept_some hL]
    all_goals assumption
  new id b hi hv hb := by
    obtain ⟨id', g1, g2, g3⟩ := reloc_blk hl hv hb
    exact h.own g2 g3
  F b hb := .inl (h.F b hb)
  Fnew b hb := by
    rcases hb with hb | ⟨id, q1, q2, q3, q4⟩
    · exact h.Fnew b hb
    · exact .inr (h.new id b q1 q2 q4)

def Reloc (s s' : St) : Prop := s'.base = s.base ∧ (s'.n = s.n ∧ s'.gl = s.gl) ∧ ∃ L, RelocH L s.base s.hp s'.hp ∧ ∀ t, AvLe s.hp L s.base (look s.ch t) (look s'.ch t)

theorem Models.reloc (h : Models E0 H0 w0 E s a w) (hr : Reloc s s') : ∃ E', Models E0 H0 w0 E' s' a w := by
  obtain ⟨hb, ⟨hn, hg⟩, L, hl, ht⟩ := hr
  have hk := h.relocOk hl
  refine ⟨renv E L s.base s.hp s'.hp, ?_⟩
  constructor
  · rw [hn]; exact h.size
  · intro t; exact reloc_rep h.heap hl (ht t) (h.tmps t)
  · exact hk.heap
  · rw [hb]; exact ⟨h.base.1, hk.len⟩
  · rw [hb]; exact hk.old
  · rw [hb]; exact hk.new
  · exact hk.F
  · exact hk.Fnew
  · exact h.keeps
  · rw [hg]; exact h.laid

/-! ### rules to restate -/

theorem look_le {hp : List AObj} {L : List (Option Nat)} {base : Nat} {ch : List (Nat × AV)} : ∀ {ch' : List (Nat × AV)}, (∀ p ∈ ch', AvLe hp L base (look ch p.1) p.2) → ∀ t, AvLe hp L base (look ch t) (look ch' t)
  | [], _, t => .undef _
  | p :: r, h, t => by
    rw [look_val]
    split
    · rename_i e; subst e; exact h p (by simp)
    · exact look_le (fun q hq => h q (by simp [hq])) t

theorem inj_of {L : List (Option Nat)} (h : L.Pairwise fun a b => a = none ∨ a ≠ b) : ∀ (i j id : Nat), L[i]? = some (some id) → L[j]? = some (some id) → i = j := by
  intro i j id hi hj
  have hil := get_lt hi
  have hjl := get_lt hj
  rw [List.getElem?_eq_getElem hil, Option.some.injEq] at hi
  rw [List.getElem?_eq_getElem hjl, Option.some.injEq] at hj
  have hp := List.pairwise_iff_getElem.1 h
  rcases Nat.lt_trichotomy i j with g | g | g
  · rcases hp i j hil hjl g with q | q
    · rw [hi] at q; cases q
    · rw [hi, hj] at q; exact absurd rfl q
  · exact g
  · rcases hp j i hjl hil g with q | q
    · rw [hj] at q; cases q
    · rw [hi, hj] at q; exact absurd rfl q

theorem Reloc.mk' {L : List (Option Nat)} {ch' : List (Nat × AV)} {hp' : List AObj} {c : Prop} (hb : s.base = 0) (hlen : hp'.length = L.length) (hinj : L.Pairwise fun a b => a = none ∨ a ≠ b)
    (hobj : ∀ (i : Nat) o', hp'[i]? = some o' → ObjLe s.hp L s.base i o') (hch : ∀ p ∈ ch', AvLe s.hp L s.base (look s.ch p.1) p.2) :
    Reloc s { ch := ch', hp := hp', base := s.base, n := s.n, cond := c, gl := s.gl } :=
  ⟨rfl, ⟨rfl, rfl⟩, L, ⟨hlen, by omega, fun i hi => by omega, fun i j id h1 h2 _ _ => inj_of hinj i j id h1 h2, hobj⟩, look_le hch⟩

end
end Go.Av

namespace Go.Av
variable [Drawn]

/-! ### objects renamed -/

theorem append_get2 {α : Type} {l m : List α} {y : α} {i : Nat} (h : (l ++ m)[i]? = some y) : (i < l.length ∧ l[i]? = some y) ∨ (l.length ≤ i ∧ m[i - l.length]? = some y) := by
  rcases Nat.lt_or_ge i l.length with g | g
  · rw [List.getElem?_append_left g] at h; exact .inl ⟨g, h⟩
  · rw [List.getElem?_append_right g] at h; exact .inr ⟨g, h⟩


def map0 (g : Nat → Nat) : AV → AV
  | .sl i b l => .sl (g i) b l
  | .hptr i x o => .hptr (g i) x o
  | .mp i => .mp (g i)
  | .agg _ => .undef
  | .tup _ => .undef
  | .clos _ _ _ => .undef
  | v => v

def mapC (g : Nat → Nat) : AV → AV
  | .agg _ => .undef
  | .tup _ => .undef
  | .clos f a b => .clos f (a.map (map0 g)) (b.map (map0 g))
  | v => map0 g v

def mapA (g : Nat → Nat) : AV → AV
  | .agg cs => .agg (cs.map (mapC g))
  | .tup _ => .undef
  | v => mapC g v

def mapT (g : Nat → Nat) : AV → AV
  | .tup vs => .tup (vs.map (mapA g))
  | v => mapA g v

def ids0 : AV → List Nat
  | .sl i _ _ => [i]
  | .hptr i _ _ => [i]
  | .mp i => [i]
  | _ => []

def idsC : AV → List Nat
  | .clos _ a b => a.flatMap ids0 ++ b.flatMap ids0
  | v => ids0 v

def idsA : AV → List Nat
  | .agg cs => cs.flatMap idsC
  | v => idsC v

/-- A value that hangs on no frozen block. -/
def isLoc0 : AV → Bool
  | .undef | .sl _ _ _ | .hptr _ _ _ | .mp _ => true
  | .agg _ | .tup _ | .clos _ _ _ => true
  | v => isScalar0 v

def isLocC : AV → Bool
  | .clos _ a b => a.all isLoc0 && b.all isLoc0
  | v => isLoc0 v

def isLocA : AV → Bool
  | .agg cs => cs.all isLocC
  | v => isLocC v

def isLocT : AV → Bool
  | .tup vs => vs.all isLocA
  | v => isLocA v

structure EnvMap (fr : Prop) (g : Nat → Nat) (S : Nat → Prop) (E E' : Env) : Prop where
  F : fr → ∀ b, E.F b → E'.F b
  N : ∀ i, S i → i < E.N → g i < E'.N
  ρ : ∀ i, S i → i < E.N → E'.ρ (g i) = E.ρ i
  σ : ∀ i, S i → i < E.N → E'.σ (g i) = E.σ i
  κ : ∀ i, S i → i < E.N → E'.κ (g i) = E.κ i
  ω : ∀ i, S i → i < E.N → E'.ω (g i) = E.ω i

section
variable {fr : Prop} {g : Nat → Nat} {S : Nat → Prop} {E E' : Env} {w : World}

theorem Rep.map0 {v : AV} {x : Value} (h : Rep E w v x) (hE : EnvMap fr g S E E') (hs : ∀ i ∈ ids0 v, S i) (hl : fr ∨ isLoc0 v = true) : Rep E' w (map0 g v) x := by
  cases h with
  | undef x => exact .undef x
  | fz v x h =>
    rcases hl with hl | hl
    · have h' : RepF E'.F w v x := h.mono (hE.F hl) (fun _ _ => rfl)
      cases h <;> exact .fz _ _ h'
    · have h' : isScalar0 v = true := by cases h <;> first | exact hl | (simp [isLoc0, isScalar0] at hl)
      have := Rep.scalar0 (E' := E') (w' := w) (Rep.fz (E := E) v x h) h'
      cases h <;> exact this
  | sl i b l av hi hle ha =>
    have hS := hs i (by simp [ids0])
    rw [← hE.κ i hS hi]
    exact .sl (g i) b l av (hE.N i hS hi) (by rw [hE.κ i hS hi]; exact hle) (by rw [hE.κ i hS hi, hE.ρ i hS hi, hE.σ i hS hi, hE.ω i hS hi]; exact ha)
  | hptr i x o b hi hb =>
    have hS := hs i (by simp [ids0])
    rw [← hE.σ i hS hi, ← hE.ω i hS hi]
    exact .hptr (g i) x o b (hE.N i hS hi) (by rw [hE.ρ i hS hi]; exact hb)
  | mp i b hi hb =>
    have hS := hs i (by simp [ids0])
    exact .mp (g i) b (hE.N i hS hi) (by rw [hE.ρ i hS hi]; exact hb)
  | agg | tup | clos => exact .undef _

theorem Rep.mapC {v : AV} {x : Value} (h : Rep E w v x) (hE : EnvMap fr g S E E') (hs : ∀ i ∈ idsC v, S i) (hl : fr ∨ isLocC v = true) : Rep E' w (mapC g v) x := by
  cases h with
  | agg => exact .undef _
  | tup => exact .undef _
  | clos f a c xa xc ha hc h1 h2 =>
    have hs : ∀ i ∈ a.flatMap ids0 ++ c.flatMap ids0, S i := hs
    have hla : ∀ v ∈ a, fr ∨ isLoc0 v = true := fun v hv => by
      rcases hl with hl | hl
      · exact .inl hl
      · have hl : (a.all isLoc0 && c.all isLoc0) = true := hl
        rw [Bool.and_eq_true] at hl; exact .inr (List.all_eq_true.1 hl.1 v hv)
    have hlc : ∀ v ∈ c, fr ∨ isLoc0 v = true := fun v hv => by
      rcases hl with hl | hl
      · exact .inl hl
      · have hl : (a.all isLoc0 && c.all isLoc0) = true := hl
        rw [Bool.and_eq_true] at hl; exact .inr (List.all_eq_true.1 hl.2 v hv)
    exact .clos f _ _ xa xc (by simpa using ha) (by simpa using hc)
      (fun i c hc => by obtain ⟨a0, ha0, rfl⟩ := getElem?_map_some hc; have hm := List.mem_of_getElem? ha0; exact (h1 i a0 ha0).map0 hE (fun j hj => hs j (by simp only [List.mem_append, List.mem_flatMap]; exact .inl ⟨a0, hm, hj⟩)) (hla a0 hm))
      (fun i c hc => by obtain ⟨a0, ha0, rfl⟩ := getElem?_map_some hc; have hm := List.mem_of_getElem? ha0; exact (h2 i a0 ha0).map0 hE (fun j hj => hs j (by simp only [List.mem_append, List.mem_flatMap]; exact .inr ⟨a0, hm, hj⟩)) (hlc a0 hm))
  | undef x => exact .undef x
  | fz v x h => have := (Rep.fz (E := E) v x h).map0 (g := g) hE (by cases h <;> exact hs) (by cases h <;> exact hl); cases h <;> exact this
  | sl i b l av hi hle ha => exact (Rep.sl (E := E) (w := w) i b l av hi hle ha).map0 hE hs hl
  | hptr i x o b hi hb => exact (Rep.hptr (E := E) (w := w) i x o b hi hb).map0 hE hs hl
  | mp i b hi hb => exact (Rep.mp (E := E) (w := w) i b hi hb).map0 hE hs hl

theorem Rep.mapA {v : AV} {x : Value} (h : Rep E w v x) (hE : EnvMap fr g S E E') (hs : ∀ i ∈ idsA v, S i) (hl : fr ∨ isLocA v = true) : Rep E' w (mapA g v) x := by
  cases h with
  | tup => exact .undef _
  | agg cells vs hn h =>
    have hs : ∀ i ∈ cells.flatMap idsC, S i := hs
    have hla : ∀ v ∈ cells, fr ∨ isLocC v = true := fun v hv => by
      rcases hl with hl | hl
      · exact .inl hl
      · exact .inr (List.all_eq_true.1 hl v hv)
    exact .agg _ vs (by simpa using hn) fun i c hc => by
      obtain ⟨a, ha, rfl⟩ := getElem?_map_some hc
      have hm := List.mem_of_getElem? ha
      exact (h i a ha).mapC hE (fun j hj => hs j (by simp only [List.mem_flatMap]; exact ⟨a, hm, hj⟩)) (hla a hm)
  | clos f a c xa xc ha hc h1 h2 => exact (Rep.clos (E := E) (w := w) f a c xa xc ha hc h1 h2).mapC hE hs hl
  | undef x => exact .undef x
  | fz v x h => have := (Rep.fz (E := E) v x h).mapC (g := g) hE (by cases h <;> exact hs) (by cases h <;> exact hl); cases h <;> exact this
  | sl i b l av hi hle ha => exact (Rep.sl (E := E) (w := w) i b l av hi hle ha).mapC hE hs hl
  | hptr i x o b hi hb => exact (Rep.hptr (E := E) (w := w) i x o b hi hb).mapC hE hs hl
  | mp i b hi hb => exact (Rep.mp (E := E) (w := w) i b hi hb).mapC hE hs hl

theorem Rep.mapT {v : AV} {x : Value} (h : Rep E w v x) (hE : EnvMap fr g (fun _ => True) E E') (hl : fr ∨ isLocT v = true) : Rep E' w (mapT g v) x := by
  cases h with
  | tup cells vs hn h =>
    have hla : ∀ v ∈ cells, fr ∨ isLocA v = true := fun v hv => by
      rcases hl with hl | hl
      · exact .inl hl
      · exact .inr (List.all_eq_true.1 hl v hv)
    exact .tup _ vs (by simpa using hn) fun i c hc => by
      obtain ⟨a, ha, rfl⟩ := getElem?_map_some hc
      exact (h i a ha).mapA hE (fun _ _ => trivial) (hla a (List.mem_of_getElem? ha))
  | agg cells vs hn h => exact (Rep.agg (E := E) (w := w) cells vs hn h).mapA hE (fun _ _ => trivial) hl
  | clos f a c xa xc ha hc h1 h2 => exact (Rep.clos (E := E) (w := w) f a c xa xc ha hc h1 h2).mapA hE (fun _ _ => trivial) hl
  | undef x => exact .undef x
  | fz v x h => have := (Rep.fz (E := E) v x h).mapA (g := g) hE (fun _ _ => trivial) (by cases h <;> exact hl); cases h <;> exact this
  | sl i b l av hi hle ha => exact (Rep.sl (E := E) (w := w) i b l av hi hle ha).mapA hE (fun _ _ => trivial) hl
  | hptr i x o b hi hb => exact (Rep.hptr (E := E) (w := w) i x o b hi hb).mapA hE (fun _ _ => trivial) hl
  | mp i b hi hb => exact (Rep.mp (E := E) (w := w) i b hi hb).mapA hE (fun _ _ => trivial) hl

def objMap (g : Nat → Nat) : AObj → AObj
  | .var cs => .var (cs.map (mapC g))
  | o => o

def objIds : AObj → List Nat
  | .var cs => cs.flatMap idsC
  | _ => []

/-- A map's key without references to frozen blocks. -/
def isLocK : AV → Bool
  | .agg cs => cs.all isScalar0
  | v => isScalar0 v

/-- An object that hangs on no frozen block. -/
def LocObj : AObj → Prop
  | .var cs => cs.all isLocC = true
  | .arr _ n row => ∀ i, i < n → (row i).all isScalar0 = true
  | .map es => es.all (fun e => isLocK e.1 && isScalar0 e.2) = true
  | .miter _ _ => False
  | _ => True

theorem mapC_cell {c : AV} (h : isCell c = true) : isCell (mapC g c) = true := by cases c <;> first | rfl | cases h

theorem RepF.scalar {F F' : Nat → Prop} {v : AV} {x : Value} (h : RepF F w v x) (hv : isScalar0 v = true) : RepF F' w v x := by
  cases h <;> first | exact .bool _ | exact .int _ _ | exact .str _ | exact .nilptr | exact .nilmap | exact .nilif | exact .nilfn | exact .nilsl | exact .zsl _ | (simp [isScalar0] at hv)

theorem RepP.scalar {F F' : Nat → Prop} {v : AV} {x : Value} (h : RepP F w v x) (hv : isLocK v = true) : RepP F' w v x := by
  rcases h with h | ⟨cs, xs, rfl, rfl, hn, hr⟩
  · exact .inl (h.scalar (by cases h <;> exact hv))
  · exact .inr ⟨cs, xs, rfl, rfl, hn, fun j c hj => (hr j c hj).scalar (List.all_eq_true.1 hv c (List.mem_of_getElem? hj))⟩

theorem ObjRep.map {i : Nat} {ob : AObj} (h : ObjRep E w i ob) (hE : EnvMap fr g S E E') (hi : i < E.N) (hS : S i) (hs : ∀ j ∈ objIds ob, S j) (hl : fr ∨ LocObj ob) : ObjRep E' w (g i) (objMap g ob) := by
  cases ob with
  | dead => trivial
  | slot => exact ⟨by rw [hE.ρ i hS hi]; exact h.1, by rw [hE.κ i hS hi]; exact h.2.1, by rw [hE.ω i hS hi]; exact h.2.2⟩
  | var cs =>
    obtain ⟨h0, b, arr, ty, e1, e2, e3, e4⟩ := h
    have hs : ∀ j ∈ cs.flatMap idsC, S j := hs
    have hla : ∀ v ∈ cs, fr ∨ isLocC v = true := fun v hv => by
      rcases hl with hl | hl
      · exact .inl hl
      · exact .inr (List.all_eq_true.1 hl v hv)
    refine ⟨by rw [hE.ω i hS hi]; exact h0, b, arr, ty, by rw [hE.ρ i hS hi]; exact e1, e2, by rw [List.length_map]; exact e3, fun j c hj => ?_⟩
    obtain ⟨c0, hc0, rfl⟩ := getElem?_map_some hj
    obtain ⟨q0, v, q1, q2⟩ := e4 j c0 hc0
    have hm := List.mem_of_getElem? hc0
    exact ⟨mapC_cell q0, v, q1, q2.mapC hE (fun k hk => hs k (by simp only [List.mem_flatMap]; exact ⟨c0, hm, hk⟩)) (hla c0 hm)⟩
  | arr sz m row =>
    obtain ⟨g1, g2, g3, g4, g5, g6⟩ := h
    refine ⟨by rw [hE.σ i hS hi]; exact g1, g2, by rw [hE.κ i hS hi]; exact g3, by rw [hE.κ i hS hi]; exact g4, g5, ?_⟩
    rw [hE.ρ i hS hi, hE.κ i hS hi, hE.ω i hS hi]
    cases hρ : E.ρ i with
    | none => rw [hρ] at g6; exact g6
    | some b =>
      rw [hρ] at g6
      obtain ⟨arr, ty, e1, e2, e3⟩ := g6
      exact ⟨arr, ty, e1, e2, fun i' j' c hi hc => by
        obtain ⟨v, q1, q2⟩ := e3 i' j' c hi hc
        rcases hl with hl | hl
        · exact ⟨v, q1, q2.mono (hE.F hl) (fun _ _ => rfl)⟩
        · exact ⟨v, q1, q2.scalar (List.all_eq_true.1 (hl i' hi) c (List.mem_of_getElem? hc))⟩⟩
  | siter s p => obtain ⟨k, g0, g1, g2, g3⟩ := h; exact ⟨k, by rw [hE.ρ i hS hi]; exact g0, g1, by rw [hE.ω i hS hi]; exact g2, by rw [hE.σ i hS hi]; exact g3⟩
  | miter cur left =>
    obtain ⟨k, m, si, se, la, g0, g1, q1, g2, g3⟩ := h
    rcases hl with hl | hl
    · exact ⟨k, m, si, se, la, by rw [hE.ρ i hS hi]; exact g0, g1, q1.mono (hE.F hl) (fun _ _ => rfl), by rw [hE.ω i hS hi]; exact g2, by rw [hE.σ i hS hi]; exact g3⟩
    · exact hl.elim
  | raw o => obtain ⟨g, k, g0, g1, g2, g3⟩ := h; exact ⟨g, k, by rw [hE.ρ i hS hi]; exact g0, g1, by rw [hE.ω i hS hi]; exact g2, by rw [hE.σ i hS hi]; exact g3⟩
  | map es =>
    obtain ⟨b, mes, clock, g0, g1, g2, g3, g4⟩ := h
    refine ⟨b, mes, clock, by rw [hE.ρ i hS hi]; exact g0, g1, g2, fun k e he => ?_, g4⟩
    obtain ⟨me, q1, q2, q3⟩ := g3 k e he
    rcases hl with hl | hl
    · exact ⟨me, q1, q2.mono (hE.F hl) (fun _ _ => rfl), q3.mono (hE.F hl) (fun _ _ => rfl)⟩
    · have := List.all_eq_true.1 hl e (List.mem_of_getElem? he)
      rw [Bool.and_eq_true] at this
      exact ⟨me, q1, q2.scalar this.1, q3.scalar this.2⟩

theorem live_objMap {H : List AObj} {i : Nat} (h : Live (H.map (objMap g)) i) : Live H i := by
  obtain ⟨o, ho, hn⟩ := h
  obtain ⟨o', ho', rfl⟩ := getElem?_map_some ho
  exact ⟨o', ho', fun e => by subst e; exact hn rfl⟩
end

/-! ### the objects that are handed on -/

def rid : List Nat → Nat → Nat
  | [], _ => 0
  | j :: I, i => bif Nat.beq j i then 0 else rid I i + 1

def memB : List Nat → Nat → Bool
  | [], _ => false
  | j :: I, i => bif Nat.beq j i then true else memB I i

def bid (I : List Nat) (n j : Nat) : Nat := bif Nat.blt j I.length then I.getD j 0 else n + (j - I.length)

theorem beq_ne {a b : Nat} (h : Nat.beq a b = false) : a ≠ b := fun e => by subst e; simp at h

theorem memB_mem : ∀ {I : List Nat} {i : Nat}, memB I i = true ↔ i ∈ I
  | [], i => by simp [memB]
  | j :: I, i => by
    show (bif Nat.beq j i then true else memB I i) = true ↔ _
    cases h : Nat.beq j i with
    | true => simp [Nat.eq_of_beq_eq_true h]
    | false => rw [cond_false, memB_mem, List.mem_cons]; exact ⟨.inr, fun q => q.resolve_left (fun e => beq_ne h e.symm)⟩

theorem rid_get : ∀ {I : List Nat} {i : Nat}, i ∈ I → I[rid I i]? = some i
  | [], i, h => by simp at h
  | j :: I, i, h => by
    show (j :: I)[bif Nat.beq j i then 0 else rid I i + 1]? = some i
    cases hb : Nat.beq j i with
    | true => simp [Nat.eq_of_beq_eq_true hb]
    | false =>
      rw [cond_false, List.getElem?_cons_succ]
      exact rid_get ((List.mem_cons.1 h).resolve_left (fun e => beq_ne hb e.symm))

theorem nodup_inj {I : List Nat} (h : I.Nodup) {i j k : Nat} (hi : I[i]? = some k) (hj : I[j]? = some k) : i = j := by
  have hil := get_lt hi
  have hjl := get_lt hj
  rw [List.getElem?_eq_getElem hil, Option.some.injEq] at hi
  rw [List.getElem?_eq_getElem hjl, Option.some.injEq] at hj
  have hp := List.pairwise_iff_getElem.1 h
  rcases Nat.lt_trichotomy i j with g | g | g
  · exact absurd (hi.trans hj.symm) (hp i j hil hjl g)
  · exact g
  · exact absurd (hj.trans hi.symm) (hp j i hjl hil g)

def passed (I : List Nat) (hp : List AObj) : List AObj := I.map fun i => objMap (rid I) (hp.getD i .dead)

/-- The objects are closed: what they refer to is handed on, too. -/
def closedB (I : List Nat) (hp : List AObj) : Bool := I.all fun i => Nat.blt i hp.length && (objIds (hp.getD i .dead)).all (memB I)

def nodupB : List Nat → Bool
  | [] => true
  | i :: I => !memB I i && nodupB I

theorem nodupB_ok : ∀ {I : List Nat}, nodupB I = true → I.Nodup
  | [], _ => List.nodup_nil
  | i :: I, h => by
    have h : (!memB I i && nodupB I) = true := h
    rw [Bool.and_eq_true] at h
    refine List.nodup_cons.2 ⟨fun hm => ?_, nodupB_ok h.2⟩
    rw [memB_mem.2 hm] at h; simp at h

/-- What a callee may take for frozen that is handed the objects I. -/
def LentH (E : Env) (hp : List AObj) (I : List Nat) (b : Nat) : Prop := ∃ id, id ∉ I ∧ Live hp id ∧ E.ρ id = some b

def calleeEnvH (E : Env) (hp : List AObj) (I : List Nat) (lent : Bool) : Env :=
  { F := fun b => E.F b ∨ (lent = true ∧ LentH E hp I b), N := I.length, ρ := fun j => E.ρ (I.getD j 0), σ := fun j => E.σ (I.getD j 0), κ := fun j => E.κ (I.getD j 0), ω := fun j => E.ω (I.getD j 0) }

section
variable {E : Env} {hp : List AObj} {w : World} {I : List Nat} {lent : Bool}

theorem getD_rid {i : Nat} (h : i ∈ I) : I.getD (rid I i) 0 = i := by simp [List.getD, rid_get h]

theorem calleeMap : EnvMap True (rid I) (· ∈ I) E (calleeEnvH E hp I lent) where
  F _ b hb := .inl hb
  N i hi _ := get_lt (rid_get hi)
  ρ i hi _ := by show E.ρ (I.getD (rid I i) 0) = _; rw [getD_rid hi]
  σ i hi _ := by show E.σ (I.getD (rid I i) 0) = _; rw [getD_rid hi]
  κ i hi _ := by show E.κ (I.getD (rid I i) 0) = _; rw [getD_rid hi]
  ω i hi _ := by show E.ω (I.getD (rid I i) 0) = _; rw [getD_rid hi]

theorem passed_get {j : Nat} {o : AObj} (h : (passed I hp)[j]? = some o) : ∃ i, I[j]? = some i ∧ o = objMap (rid I) (hp.getD i .dead) := by
  obtain ⟨i, hi, rfl⟩ := getElem?_map_some h
  exact ⟨i, hi, rfl⟩

theorem live_passed {j : Nat} (h : Live (passed I hp) j) : ∃ i, I[j]? = some i ∧ Live hp i := by
  obtain ⟨o, ho, hn⟩ := h
  obtain ⟨i, hi, rfl⟩ := passed_get ho
  refine ⟨i, hi, ?_⟩
  cases hg : hp[i]? with
  | none => rw [List.getD, hg] at hn; exact absurd rfl hn
  | some ob => exact ⟨ob, hg, fun e => by subst e; rw [List.getD, hg] at hn; exact absurd rfl hn⟩

theorem calleeEnvH_ok (h : HeapOk E hp w) (hI : I.Nodup) (hc : closedB I hp = true) : HeapOk (calleeEnvH E hp I lent) (passed I hp) w := by
  have hc' : ∀ i ∈ I, i < hp.length ∧ ∀ k ∈ objIds (hp.getD i .dead), k ∈ I := fun i hi => by
    have := List.all_eq_true.1 hc i hi
    rw [Bool.and_eq_true] at this
    exact ⟨by simpa [Nat.blt, Nat.succ_le_iff] using this.1, fun k hk => memB_mem.1 (List.all_eq_true.1 this.2 k hk)⟩
  have hgd : ∀ {j i : Nat}, I[j]? = some i → I.getD j 0 = i := fun h => by simp [List.getD, h]
  constructor
  · simp [calleeEnvH, passed]
  · intro j o ho
    obtain ⟨i, hi, rfl⟩ := passed_get ho
    have hm := List.mem_of_getElem? hi
    obtain ⟨hlt, hcl⟩ := hc' i hm
    have hlt' : i < E.N := by rw [h.len]; exact hlt
    have hj : rid I i = j := nodup_inj hI (rid_get hm) hi
    have hob := h.obj i hp[i] (List.getElem?_eq_getElem hlt)
    have he : hp.getD i .dead = hp[i] := by simp [List.getD, hlt]
    rw [he] at hcl ⊢
    have := hob.map (calleeMap (hp := hp) (lent := lent)) hlt' hm hcl (.inl trivial)
    rw [hj] at this
    exact this
  · intro j b hl hb
    obtain ⟨i, hi, hl⟩ := live_passed hl
    have hb : E.ρ (I.getD j 0) = some b := hb
    rw [hgd hi] at hb
    exact h.lt i b hl hb
  · intro j b hl hb hF
    obtain ⟨i, hi, hl⟩ := live_passed hl
    have hb : E.ρ (I.getD j 0) = some b := hb
    rw [hgd hi] at hb
    rcases hF with hF | ⟨_, id, hn, hl', hb'⟩
    · exact h.fr i b hl hb hF
    · exact hn (by rw [h.inj id i b hl' hl hb' hb]; exact List.mem_of_getElem? hi)
  · intro j k b hj hk hbj hbk
    obtain ⟨i, hi, hl⟩ := live_passed hj
    obtain ⟨i', hi', hl'⟩ := live_passed hk
    have hbj : E.ρ (I.getD j 0) = some b := hbj
    have hbk : E.ρ (I.getD k 0) = some b := hbk
    rw [hgd hi] at hbj
    rw [hgd hi'] at hbk
    have := h.inj i i' b hl hl' hbj hbk
    subst this
    exact nodup_inj hI hi hi'
  · intro b hb
    rcases hb with hb | ⟨_, id, _, hl, hb⟩
    · exact h.frz b hb
    · exact h.lt id b hl hb
end

/-! ### arguments -/

def argH0 (I : List Nat) (hp : List AObj) : AV → Option (AV × Prop × Bool)
  | .sl id b n => bif memB I id then some (.sl (rid I id) b n, True, false) else match hp[id]? with
    | some (.arr _ m row) => some (.list n (fz n (dropRow b row)), b + n ≤ m, true)
    | _ => none
  | .hptr id x o => bif memB I id then some (.hptr (rid I id) x o, True, false) else none
  | .mp id => bif memB I id then some (.mp (rid I id), True, false) else none
  | .clos f a c => bif (a.flatMap ids0 ++ c.flatMap ids0).all (memB I) then some (.clos f (a.map (map0 (rid I))) (c.map (map0 (rid I))), True, false) else none
  | .undef | .agg _ | .tup _ => none
  | v => some (v, True, false)

def argsH0 (I : List Nat) (hp : List AObj) : List AV → Option (List AV × Prop × Bool)
  | [] => some ([], True, false)
  | v :: vs => (argH0 I hp v).bind fun p => (argsH0 I hp vs).bind fun q => some (p.1 :: q.1, p.2.1 ∧ q.2.1, p.2.2 || q.2.2)

def argH (I : List Nat) (hp : List AObj) : AV → Option (AV × Prop × Bool)
  | .agg cs => (argsH0 I hp cs).bind fun p => some (.agg p.1, p.2.1, p.2.2)
  | v => argH0 I hp v

def argsH (I : List Nat) (hp : List AObj) : List AV → Option (List AV × Prop × Bool)
  | [] => some ([], True, false)
  | v :: vs => (argH I hp v).bind fun p => (argsH I hp vs).bind fun q => some (p.1 :: q.1, p.2.1 ∧ q.2.1, p.2.2 || q.2.2)

section
variable {E : Env} {hp : List AObj} {w : World} {I : List Nat} {lent : Bool}

theorem argH0_rep (h : HeapOk E hp w) {v : AV} {x : Value} (hx : Rep E w v x) {p : AV × Prop × Bool} (hp' : argH0 I hp v = some p) (hc : p.2.1) (hl : p.2.2 = true → lent = true) :
    Rep (calleeEnvH E hp I lent) w p.1 x := by
  have hM : EnvMap True (rid I) (· ∈ I) E (calleeEnvH E hp I lent) := calleeMap
  have free : isFree v = true → p.1 = v → Rep (calleeEnvH E hp I lent) w p.1 x := fun hf e => by
    rw [e]; exact .fz _ _ ((hx.toF hf).mono (fun b hb => .inl hb) (fun _ _ => rfl))
  cases v with
  | sl id b n =>
    simp only [argH0] at hp'
    cases hm : memB I id with
    | true =>
      rw [hm, cond_true, Option.some.injEq] at hp'; subst hp'
      exact hx.map0 hM (fun i hi => by simp only [ids0, List.mem_singleton] at hi; subst hi; exact memB_mem.1 hm) (.inl trivial)
    | false =>
      rw [hm, cond_false] at hp'
      split at hp'
      · rename_i sz m row hid
        simp only [Option.some.injEq] at hp'; subst hp'
        have hlt := hl rfl
        subst hlt
        exact .fz _ _ (RepF.fz (sl_frozen (h.obj id _ hid) hx hc (fun b hb => .inl hb) (fun b hb => .inr ⟨rfl, id, (fun hmem => by rw [memB_mem.2 hmem] at hm; cases hm), ⟨_, hid, by simp⟩, hb⟩)))
      · cases hp'
  | hptr id a o =>
    simp only [argH0] at hp'
    cases hm : memB I id with
    | true =>
      rw [hm, cond_true, Option.some.injEq] at hp'; subst hp'
      exact hx.map0 hM (fun i hi => by simp only [ids0, List.mem_singleton] at hi; subst hi; exact memB_mem.1 hm) (.inl trivial)
    | false => rw [hm] at hp'; cases hp'
  | mp id =>
    simp only [argH0] at hp'
    cases hm : memB I id with
    | true =>
      rw [hm, cond_true, Option.some.injEq] at hp'; subst hp'
      exact hx.map0 hM (fun i hi => by simp only [ids0, List.mem_singleton] at hi; subst hi; exact memB_mem.1 hm) (.inl trivial)
    | false => rw [hm] at hp'; cases hp'
  | clos f aa cc =>
    simp only [argH0] at hp'
    cases hm : (aa.flatMap ids0 ++ cc.flatMap ids0).all (memB I) with
    | true =>
      rw [hm, cond_true, Option.some.injEq] at hp'; subst hp'
      exact hx.mapC hM (fun i hi => memB_mem.1 (List.all_eq_true.1 hm i hi)) (.inl trivial)
    | false => rw [hm] at hp'; cases hp'
  | undef => simp [argH0] at hp'
  | agg => simp [argH0] at hp'
  | tup => simp [argH0] at hp'
  | _ => simp only [argH0, Option.some.injEq] at hp'; exact free rfl (by rw [← hp'])

theorem argsH0_rep (h : HeapOk E hp w) : ∀ (vs : List AV) (xs : List Value) (p : List AV × Prop × Bool), xs.length = vs.length → (∀ (i : Nat) c, vs[i]? = some c → Rep E w c (xs.getD i default)) →
    argsH0 I hp vs = some p → p.2.1 → (p.2.2 = true → lent = true) → xs.length = p.1.length ∧ ∀ (i : Nat) c, p.1[i]? = some c → Rep (calleeEnvH E hp I lent) w c (xs.getD i default)
  | [], xs, p, hl, hr, hp', hc, hlt => by
    simp only [argsH0, Option.some.injEq] at hp'; subst hp'
    exact ⟨by simpa using hl, fun i c hi => by simp at hi⟩
  | v :: vs, [], p, hl, _, _, _, _ => by simp at hl
  | v :: vs, x :: xs, p, hl, hr, hp', hc, hlt => by
    simp only [argsH0, Option.bind_eq_some_iff, Option.some.injEq] at hp'
    obtain ⟨p1, hp1, q, hq, rfl⟩ := hp'
    simp only at hc hlt
    have h0 := argH0_rep h (hr 0 v rfl) hp1 hc.1 (lent := lent) (fun e => hlt (by rw [e]; rfl))
    obtain ⟨g1, g2⟩ := argsH0_rep h vs xs q (by simpa using hl) (fun i c hi => by simpa using hr (i + 1) c (by simpa using hi)) hq hc.2 (fun e => hlt (by rw [e]; simp))
    refine ⟨by simp [g1], fun i c hi => ?_⟩
    cases i with
    | zero => simp at hi; subst hi; exact h0
    | succ i => simpa using g2 i c (by simpa using hi)

theorem argH_rep (h : HeapOk E hp w) {v : AV} {x : Value} (hx : Rep E w v x) {p : AV × Prop × Bool} (hp' : argH I hp v = some p) (hc : p.2.1) (hl : p.2.2 = true → lent = true) :
    Rep (calleeEnvH E hp I lent) w p.1 x := by
  cases v with
  | agg cs =>
    simp only [argH, Option.bind_eq_some_iff, Option.some.injEq] at hp'
    obtain ⟨q, hq, rfl⟩ := hp'
    cases hx with
    | fz _ _ hx => cases hx
    | agg _ vs hn hr =>
      obtain ⟨g1, g2⟩ := argsH0_rep h cs vs q hn hr hq hc hl
      exact .agg _ vs g1 g2
  | _ => exact argH0_rep h hx hp' hc hl

theorem argsH_rep (h : HeapOk E hp w) : ∀ (vs : List AV) (xs : List Value) (p : List AV × Prop × Bool), xs.length = vs.length → (∀ (i : Nat) c, vs[i]? = some c → Rep E w c (xs.getD i default)) →
    argsH I hp vs = some p → p.2.1 → (p.2.2 = true → lent = true) → ArgsRep (calleeEnvH E hp I lent) w p.1 xs
  | [], xs, p, hl, hr, hp', hc, hlt => by
    simp only [argsH, Option.some.injEq] at hp'; subst hp'
    exact ⟨by simpa using hl, fun i c hi => by simp at hi⟩
  | v :: vs, [], p, hl, _, _, _, _ => by simp at hl
  | v :: vs, x :: xs, p, hl, hr, hp', hc, hlt => by
    simp only [argsH, Option.bind_eq_some_iff, Option.some.injEq] at hp'
    obtain ⟨p1, hp1, q, hq, rfl⟩ := hp'
    simp only at hc hlt
    have h0 := argH_rep h (hr 0 v rfl) hp1 hc.1 (lent := lent) (fun e => hlt (by rw [e]; rfl))
    obtain ⟨g1, g2⟩ := argsH_rep h vs xs q (by simpa using hl) (fun i c hi => by simpa using hr (i + 1) c (by simpa using hi)) hq hc.2 (fun e => hlt (by rw [e]; simp))
    refine ⟨by simp [g1], fun i c hi => ?_⟩
    cases i with
    | zero => simp at hi; subst hi; exact h0
    | succ i => simpa using g2 i c (by simpa using hi)
end

/-! ### behind the call -/

def putAt : List AObj → List Nat → List AObj → List AObj
  | hp, [], os => hp ++ os
  | hp, i :: I, o :: os => putAt (hp.set i o) I os
  | hp, _ :: _, [] => hp

def putBack (I : List Nat) (hp H' : List AObj) : List AObj := putAt hp I (H'.map (objMap (bid I hp.length)))

theorem putAt_len : ∀ (I : List Nat) (hp os : List AObj), I.length ≤ os.length → (putAt hp I os).length = hp.length + (os.length - I.length)
  | [], hp, os, _ => by simp [putAt]
  | i :: I, hp, [], h => by simp at h
  | i :: I, hp, o :: os, h => by
    simp only [putAt, List.length_cons] at h ⊢
    rw [putAt_len I _ os (by omega), List.length_set]; omega

theorem putAt_get : ∀ (I : List Nat) (hp os : List AObj) (i : Nat) (o : AObj), I.Nodup → (∀ i ∈ I, i < hp.length) → I.length ≤ os.length → (putAt hp I os)[i]? = some o →
    (i < hp.length ∧ i ∉ I ∧ hp[i]? = some o) ∨ (∃ j : Nat, I[j]? = some i ∧ os[j]? = some o) ∨ (hp.length ≤ i ∧ os[i - hp.length + I.length]? = some o)
  | [], hp, os, i, o, _, _, _, h => by
    have h : (hp ++ os)[i]? = some o := by cases os <;> exact h
    rcases append_get2 h with ⟨g, h⟩ | ⟨g, h⟩
    · exact .inl ⟨g, by simp, h⟩
    · exact .inr (.inr ⟨g, h⟩)
  | k :: I, hp, [], i, o, _, _, hl, h => by simp at hl
  | k :: I, hp, q :: os, i, o, hn, hr, hl, h => by
    simp only [putAt] at h
    rw [List.nodup_cons] at hn
    rcases putAt_get I (hp.set k q) os i o hn.2 (fun i hi => by rw [List.length_set]; exact hr i (by simp [hi])) (by simpa using hl) h with ⟨g1, g2, g3⟩ | ⟨j, g1, g2⟩ | ⟨g1, g2⟩
    · rw [List.length_set] at g1
      rw [List.getElem?_set] at g3
      split at g3
      · rename_i e; subst e
        rw [if_pos g1] at g3
        exact .inr (.inl ⟨0, rfl, by simpa using g3⟩)
      · rename_i e
        exact .inl ⟨g1, by simp only [List.mem_cons, not_or]; exact ⟨fun e' => e e'.symm, g2⟩, g3⟩
    · exact .inr (.inl ⟨j + 1, by simpa using g1, by simpa using g2⟩)
    · rw [List.length_set] at g1 g2
      exact .inr (.inr ⟨g1, by rw [List.length_cons, ← Nat.add_assoc, List.getElem?_cons_succ]; exact g2⟩)

/-- The caller's environment behind the call. -/
def mergeEnvH (E E' : Env) (hp : List AObj) (I : List Nat) : Env :=
  { F := fun b => E'.F b ∧ ¬ LentH E hp I b, N := E.N + (E'.N - I.length),
    ρ := fun i => if i < E.N then E.ρ i else E'.ρ (i - E.N + I.length), σ := fun i => if i < E.N then E.σ i else E'.σ (i - E.N + I.length),
    κ := fun i => if i < E.N then E.κ i else E'.κ (i - E.N + I.length), ω := fun i => if i < E.N then E.ω i else E'.ω (i - E.N + I.length) }

section
variable {E0 : Env} {H0 : List AObj} {w0 : World} {E : Env} {s s' : St} {a : Act} {w : World}

theorem bid_lt {I : List Nat} {n j i : Nat} (h : I[j]? = some i) : bid I n j = i := by
  have := get_lt h
  have hb : Nat.blt j I.length = true := by simpa [Nat.blt, Nat.succ_le_iff] using this
  simp [bid, hb, List.getD, h]

theorem bid_ge {I : List Nat} {n j : Nat} (h : I.length ≤ j) : bid I n j = n + (j - I.length) := by
  have hb : Nat.blt j I.length = false := by
    cases q : Nat.blt j I.length with
    | false => rfl
    | true => have : j < I.length := by simpa [Nat.blt, Nat.succ_le_iff] using q
              omega
  simp [bid, hb]

/-- The caller's state behind a call that was handed the objects I. -/
theorem Models.afterCallH (h : Models E0 H0 w0 E s a w) {I : List Nat} {lent : Bool} {E' : Env} {H' : List AObj} {w' : World} (hI : I.Nodup) (hc : closedB I s.hp = true) (ha : After (calleeEnvH E s.hp I lent) (passed I s.hp) w E' H' w')
    (hlent : lent = true → ∀ o ∈ H', LocObj o) :
    Models E0 H0 w0 (mergeEnvH E E' s.hp I) { s with hp := putBack I s.hp H' } a w' ∧ EnvMap (lent = false) (bid I s.hp.length) (fun _ => True) E' (mergeEnvH E E' s.hp I) := by
  have hN := h.heap.len
  have hN' := ha.heap.len
  have hpl : (passed I s.hp).length = I.length := by simp [passed]
  have hlen : I.length ≤ H'.length := by have := ha.len; omega
  have hIr : ∀ i ∈ I, i < s.hp.length := fun i hi => by
    have := List.all_eq_true.1 hc i hi
    rw [Bool.and_eq_true] at this
    simpa [Nat.blt, Nat.succ_le_iff] using this.1
  have hpass : ∀ b, Owned (calleeEnvH E s.hp I lent) (passed I s.hp) b → ∃ i ∈ I, Live s.hp i ∧ E.ρ i = some b := fun b ⟨j, hl, hb⟩ => by
    obtain ⟨i, hi, hl⟩ := live_passed hl
    have hb : E.ρ (I.getD j 0) = some b := hb
    rw [show I.getD j 0 = i by simp [List.getD, hi]] at hb
    exact ⟨i, List.mem_of_getElem? hi, hl, hb⟩
  -- the callee's environment, at what it was handed
  have hold : ∀ (j i : Nat), I[j]? = some i → (Live H' j → Live s.hp i) ∧ E'.ρ j = E.ρ i ∧ E'.σ j = E.σ i ∧ E'.κ j = E.κ i ∧ E'.ω j = E.ω i := fun j i hi => by
    obtain ⟨a1, a2, a3, a4, a5⟩ := ha.old j (by rw [hpl]; exact get_lt hi)
    have hg : I.getD j 0 = i := by simp [List.getD, hi]
    simp only [calleeEnvH, hg] at a2 a3 a4 a5
    refine ⟨fun hl => ?_, a2, a3, a4, a5⟩
    obtain ⟨i', hi', hl'⟩ := live_passed (a1 hl)
    rw [hi] at hi'; cases hi'; exact hl'
  have hF0 : ∀ b, E.F b → ¬ LentH E s.hp I b := fun b hb ⟨id, _, hl, hρ⟩ => h.heap.fr id b hl hρ hb
  have hF1 : ∀ b, E.F b → (mergeEnvH E E' s.hp I).F b := fun b hb => ⟨ha.F b (.inl hb), hF0 b hb⟩
  have hF2 : ∀ b, (mergeEnvH E E' s.hp I).F b → E.F b ∨ w.heap.size ≤ b ∨ ∃ i ∈ I, Live s.hp i ∧ E.ρ i = some b := fun b ⟨hb, hn⟩ => by
    rcases ha.Fnew b hb with hb | hb | hb
    · rcases hb with hb | ⟨_, hb⟩
      · exact .inl hb
      · exact absurd hb hn
    · exact .inr (.inl hb)
    · exact .inr (.inr (hpass b hb))
  have hle : E.Le (mergeEnvH E E' s.hp I) := ⟨hF1, Nat.le_add_right _ _, fun i hi => if_pos hi, fun i hi => if_pos hi, fun i hi => if_pos hi, fun i hi => if_pos hi⟩
  have hFw : ∀ b, E.F b → w'.heap[b]? = w.heap[b]? := fun b hb => ha.keeps.block b (h.heap.frz b hb) (fun ho => by
    obtain ⟨i, _, hl, hρ⟩ := hpass b ho; exact h.heap.fr i b hl hρ hb)
  have nn : ∀ i, E.N ≤ i → (mergeEnvH E E' s.hp I).ρ i = E'.ρ (i - E.N + I.length) ∧ (mergeEnvH E E' s.hp I).σ i = E'.σ (i - E.N + I.length) ∧ (mergeEnvH E E' s.hp I).κ i = E'.κ (i - E.N + I.length) ∧ (mergeEnvH E E' s.hp I).ω i = E'.ω (i - E.N + I.length) :=
    fun i hi => ⟨if_neg (by omega), if_neg (by omega), if_neg (by omega), if_neg (by omega)⟩
  have hmap : EnvMap (lent = false) (bid I s.hp.length) (fun _ => True) E' (mergeEnvH E E' s.hp I) := by
    have hcase : ∀ j, j < E'.N → (∃ i, I[j]? = some i ∧ bid I s.hp.length j = i ∧ i < E.N) ∨ (I.length ≤ j ∧ bid I s.hp.length j = E.N + (j - I.length)) := fun j hj => by
      rcases Nat.lt_or_ge j I.length with q | q
      · have hi := List.getElem?_eq_getElem q
        exact .inl ⟨_, hi, bid_lt hi, by rw [hN]; exact hIr _ (List.mem_of_getElem? hi)⟩
      · exact .inr ⟨q, by rw [bid_ge q, hN]⟩
    constructor
    · intro hf b hb
      refine ⟨hb, fun hle => ?_⟩
      obtain ⟨id, hn, hl, hρ⟩ := hle
      rcases ha.Fnew b hb with q | q | q
      · rcases q with q | ⟨q, _⟩
        · exact h.heap.fr id b hl hρ q
        · rw [hf] at q; cases q
      · have := h.heap.lt id b hl hρ; omega
      · obtain ⟨i, hi, hl', hρ'⟩ := hpass b q
        exact hn (by rw [h.heap.inj id i b hl hl' hρ hρ']; exact hi)
    · intro j _ hj
      rcases hcase j hj with ⟨i, hi, e, hlt⟩ | ⟨q, e⟩
      · rw [e]; exact Nat.lt_of_lt_of_le hlt (Nat.le_add_right _ _)
      · rw [e]; show _ < E.N + (E'.N - I.length); omega
    all_goals
      intro j _ hj
      rcases hcase j hj with ⟨i, hi, e, hlt⟩ | ⟨q, e⟩
      · rw [e]
        obtain ⟨_, a2, a3, a4, a5⟩ := hold j i hi
        first
          | (rw [hle.ρ i hlt, a2]; done)
          | (rw [hle.σ i hlt, a3]; done)
          | (rw [hle.κ i hlt, a4]; done)
          | (rw [hle.ω i hlt, a5]; done)
      · rw [e]
        obtain ⟨b2, b3, b4, b5⟩ := nn (E.N + (j - I.length)) (Nat.le_add_right _ _)
        have ej : E.N + (j - I.length) - E.N + I.length = j := by omega
        rw [ej] at b2 b3 b4 b5
        first | exact b2 | exact b3 | exact b4 | exact b5
  -- what lives behind
  have hlv : ∀ i, Live (putBack I s.hp H') i → (i < s.hp.length ∧ i ∉ I ∧ Live s.hp i) ∨ (∃ j : Nat, I[j]? = some i ∧ Live H' j ∧ Live s.hp i ∧ i < s.hp.length) ∨ (s.hp.length ≤ i ∧ Live H' (i - s.hp.length + I.length)) := fun i ⟨o, ho, hn⟩ => by
    rcases putAt_get I s.hp _ i o hI hIr (by rw [List.length_map]; exact hlen) ho with ⟨g1, g2, g3⟩ | ⟨j, g1, g2⟩ | ⟨g1, g2⟩
    · exact .inl ⟨g1, g2, o, g3, hn⟩
    · have := live_objMap (g := bid I s.hp.length) (H := H') ⟨o, g2, hn⟩
      exact .inr (.inl ⟨j, g1, this, (hold j i g1).1 this, hIr i (List.mem_of_getElem? g1)⟩)
    · exact .inr (.inr ⟨g1, live_objMap (g := bid I s.hp.length) (H := H') ⟨o, g2, hn⟩⟩)
  -- the block of what lives behind
  have hblk : ∀ i b, Live (putBack I s.hp H') i → (mergeEnvH E E' s.hp I).ρ i = some b →
      (i < E.N ∧ i ∉ I ∧ Live s.hp i ∧ E.ρ i = some b) ∨ (∃ j, bid I s.hp.length j = i ∧ j < E'.N ∧ Live H' j ∧ E'.ρ j = some b ∧ (I.length ≤ j ∨ (i < E.N ∧ Live s.hp i ∧ E.ρ i = some b ∧ i ∈ I))) := fun i b hl hb => by
    rcases hlv i hl with ⟨g1, g2, g3⟩ | ⟨j, g1, g2, g3, g4⟩ | ⟨g1, g2⟩
    · rw [hle.ρ i (by omega)] at hb; exact .inl ⟨by omega, g2, g3, hb⟩
    · rw [hle.ρ i (by omega)] at hb
      obtain ⟨_, a2, _⟩ := hold j i g1
      exact .inr ⟨j, bid_lt g1, by have := live_lt g2; omega, g2, by rw [a2]; exact hb, .inr ⟨by omega, g3, hb, List.mem_of_getElem? g1⟩⟩
    · obtain ⟨b2, _⟩ := nn i (by omega)
      rw [b2, hN] at hb
      exact .inr ⟨i - s.hp.length + I.length, by rw [bid_ge (by omega)]; omega, by have := live_lt g2; omega, g2, hb, .inl (by omega)⟩
  have hnewb : ∀ j b, I.length ≤ j → Live H' j → E'.ρ j = some b → w.heap.size ≤ b ∨ ∃ i ∈ I, Live s.hp i ∧ E.ρ i = some b := fun j b hj hl hb => by
    rcases ha.new j b (by rw [hpl]; exact hj) hl hb with q | q
    · exact .inl q
    · exact .inr (hpass b q)
  refine ⟨?_, hmap⟩
  constructor
  · exact h.size
  · intro t; exact (h.tmps t).mono hle hFw
  · constructor
    · show E.N + (E'.N - I.length) = (putAt _ _ _).length
      rw [putAt_len _ _ _ (by rw [List.length_map]; exact hlen), List.length_map, hN, hN']
    · intro id ob hid
      rcases putAt_get I s.hp _ id ob hI hIr (by rw [List.length_map]; exact hlen) hid with ⟨g1, g2, g3⟩ | ⟨j, g1, g2⟩ | ⟨g1, g2⟩
      · refine (h.heap.obj id ob g3).mono (by omega) hle hFw (fun hne b hb => ha.keeps.block b (h.heap.lt id b ⟨ob, g3, hne⟩ hb) (fun ho => ?_))
        obtain ⟨i, hi, hl', hρ'⟩ := hpass b ho
        exact g2 (by rw [h.heap.inj id i b ⟨ob, g3, hne⟩ hl' hb hρ']; exact hi)
      · obtain ⟨o', ho', rfl⟩ := getElem?_map_some g2
        have := (ha.heap.obj j o' ho').map hmap (by rw [hN']; exact get_lt ho') trivial (fun _ _ => trivial) (by
          cases hlt : lent with
          | false => exact .inl rfl
          | true => exact .inr (hlent hlt o' (List.mem_of_getElem? ho')))
        rw [bid_lt g1] at this
        exact this
      · obtain ⟨o', ho', rfl⟩ := getElem?_map_some g2
        have := (ha.heap.obj _ o' ho').map hmap (by rw [hN']; exact get_lt ho') trivial (fun _ _ => trivial) (by
          cases hlt : lent with
          | false => exact .inl rfl
          | true => exact .inr (hlent hlt o' (List.mem_of_getElem? ho')))
        rw [bid_ge (by omega), show s.hp.length + (id - s.hp.length + I.length - I.length) = id by omega] at this
        exact this
    · intro i b hl hb
      rcases hblk i b hl hb with ⟨_, _, g3, g4⟩ | ⟨j, _, _, g3, g4, _⟩
      · exact Nat.lt_of_lt_of_le (h.heap.lt i b g3 g4) ha.keeps.size
      · exact ha.heap.lt j b g3 g4
    · intro i b hl hb hF
      rcases hblk i b hl hb with ⟨_, g2, g3, g4⟩ | ⟨j, _, _, g3, g4, _⟩
      · exact hF.2 ⟨i, g2, g3, g4⟩
      · exact ha.heap.fr j b g3 g4 hF.1
    · intro i j b hi hj hbi hbj
      rcases hblk i b hi hbi with ⟨p1, p2, p3, p4⟩ | ⟨k, p1, p2, p3, p4, p5⟩ <;> rcases hblk j b hj hbj with ⟨q1, q2, q3, q4⟩ | ⟨k', q1, q2, q3, q4, q5⟩
      · exact h.heap.inj i j b p3 q3 p4 q4
      · rcases q5 with q5 | ⟨_, q6, q7, q8⟩
        · rcases hnewb k' b q5 q3 q4 with r | ⟨i', r1, r2, r3⟩
          · have := h.heap.lt i b p3 p4; omega
          · exact absurd (by rw [h.heap.inj i i' b p3 r2 p4 r3]; exact r1) p2
        · exact h.heap.inj i j b p3 q6 p4 q7
      · rcases p5 with p5 | ⟨_, p6, p7, p8⟩
        · rcases hnewb k b p5 p3 p4 with r | ⟨i', r1, r2, r3⟩
          · have := h.heap.lt j b q3 q4; omega
          · exact absurd (by rw [h.heap.inj j i' b q3 r2 q4 r3]; exact r1) q2
        · exact h.heap.inj i j b p6 q3 p7 q4
      · have := ha.heap.inj k k' b p3 q3 p4 q4
        subst this
        rw [← p1, ← q1]
    · intro b hb; exact ha.heap.frz b hb.1
  · exact ⟨h.base.1, by show _ ≤ (putAt _ _ _).length; rw [putAt_len _ _ _ (by rw [List.length_map]; exact hlen)]; have := h.base.2; omega⟩
  · intro id hi
    have hb := h.base
    have hi : id < s.base := hi
    obtain ⟨a1, a2, a3, a4, a5⟩ := h.old id hi
    refine ⟨fun hl => ?_, by rw [hle.ρ id (by omega)]; exact a2, by rw [hle.σ id (by omega)]; exact a3, by rw [hle.κ id (by omega)]; exact a4, by rw [hle.ω id (by omega)]; exact a5⟩
    rcases hlv id hl with ⟨_, _, g⟩ | ⟨_, _, _, g, _⟩ | ⟨g, _⟩
    · exact a1 g
    · exact a1 g
    · omega
  · intro id b hi hl hb
    rcases hblk id b hl hb with ⟨_, _, g3, g4⟩ | ⟨j, _, _, g3, g4, g5⟩
    · exact h.own g3 g4
    · rcases g5 with g5 | ⟨_, q1, q2, _⟩
      · rcases hnewb j b g5 g3 g4 with r | ⟨i', r1, r2, r3⟩
        · exact .inl (Nat.le_trans h.keeps.size r)
        · exact h.own r2 r3
      · exact h.own q1 q2
  · exact fun b hb => hF1 b (h.F b hb)
  · intro b hb
    rcases hF2 b hb with g | g | ⟨i, _, g1, g2⟩
    · exact h.Fnew b g
    · exact .inr (.inl (Nat.le_trans h.keeps.size g))
    · exact .inr (h.own g1 g2)
  · refine h.keeps.trans ha.keeps (fun b hb ho => ?_)
    obtain ⟨i, _, hl, hρ⟩ := hpass b ho
    rcases h.own hl hρ with q | q
    · omega
    · exact q
  · exact h.laid
end
end Go.Av

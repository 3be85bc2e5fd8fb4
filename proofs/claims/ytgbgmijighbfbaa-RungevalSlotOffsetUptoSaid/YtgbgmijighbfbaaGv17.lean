/- The Av framework: a state restated. No law is proved here. -/
import Derived.Test.YtgbgmijighbfbaaGv14
set_option linter.unusedSimpArgs false
set_option linter.unusedVariables false
set_option linter.unusedSectionVars false
namespace Go.Av

/-- What a value becomes when objects are renamed, dropped or frozen. -/
inductive AvLe (hp : List AObj) (L : List (Option Nat)) (base : Nat) : AV → AV → Prop
  | undef (v) : AvLe hp L base v .undef
  | refl (v) (h : isFree v = true) : AvLe hp L base v v
  | sl (id id' b n) (h : L[id']? = some (some id)) : AvLe hp L base (.sl id b n) (.sl id' b n)
  | hptr (id id' x o) (h : L[id']? = some (some id)) : AvLe hp L base (.hptr id x o) (.hptr id' x o)
  | mp (id id') (h : L[id']? = some (some id)) : AvLe hp L base (.mp id) (.mp id')
  | frz (id b n sz m) (row row' : Nat → List AV) (h : hp[id]? = some (.arr sz m row)) (hb : base ≤ id) (hL : some id ∉ L) (hn : b + n ≤ m)
      (hr : ∀ i, i < n → row (b + i) = row' i) : AvLe hp L base (.sl id b n) (.list n row')
  | list (n) (row row' : Nat → List AV) (h : ∀ i, i < n → row i = row' i) : AvLe hp L base (.list n row) (.list n row')
  | nil (row : Nat → List AV) : AvLe hp L base .nilsl (.list 0 row)
  | znil (row : Nat → List AV) : AvLe hp L base .zsl (.list 0 row)
  | ghost (id) (h : L[id]? = some none) : AvLe hp L base .nilsl (.sl id 0 0)
  | zghost (id) (h : L[id]? = some none) : AvLe hp L base .zsl (.sl id 0 0)
  | agg (cs cs' : List AV) (hn : cs'.length = cs.length) (h : ∀ (i : Nat) (c c' : AV), cs[i]? = some c → cs'[i]? = some c' → AvLe hp L base c c') : AvLe hp L base (.agg cs) (.agg cs')
  | tup (cs cs' : List AV) (hn : cs'.length = cs.length) (h : ∀ (i : Nat) (c c' : AV), cs[i]? = some c → cs'[i]? = some c' → AvLe hp L base c c') : AvLe hp L base (.tup cs) (.tup cs')
  | clos (f : FuncId) (a c a' c' : List AV) (ha : a'.length = a.length) (hc : c'.length = c.length)
      (h1 : ∀ (i : Nat) (u v : AV), a[i]? = some u → a'[i]? = some v → AvLe hp L base u v) (h2 : ∀ (i : Nat) (u v : AV), c[i]? = some u → c'[i]? = some v → AvLe hp L base u v) : AvLe hp L base (.clos f a c) (.clos f a' c')

def ObjLe (hp : List AObj) (L : List (Option Nat)) (base i : Nat) : AObj → Prop
  | .dead => True
  | .slot => L[i]? = some none
  | .arr sz n row' => (L[i]? = some none ∧ n = 0 ∧ 0 < sz) ∨ ∃ id m row, L[i]? = some (some id) ∧ hp[id]? = some (.arr sz m row) ∧ n ≤ m ∧ ∀ k, k < n → row k = row' k
  | .var cs' => ∃ id cs, L[i]? = some (some id) ∧ hp[id]? = some (.var cs) ∧ cs'.length = cs.length ∧ ∀ (j : Nat) c c', cs[j]? = some c → cs'[j]? = some c' → isCell c' = true ∧ AvLe hp L base c c'
  | .map es => ∃ id, L[i]? = some (some id) ∧ hp[id]? = some (.map es)

structure RelocH (L : List (Option Nat)) (base : Nat) (hp hp' : List AObj) : Prop where
  len : hp'.length = L.length
  le : base ≤ L.length
  low : ∀ i : Nat, i < base → L[i]? = some (some i)
  inj : ∀ (i j id : Nat), L[i]? = some (some id) → L[j]? = some (some id) → i = j
  obj : ∀ (i : Nat) o', hp'[i]? = some o' → ObjLe hp L base i o'

def kept (L : List (Option Nat)) (i : Nat) : Option Nat := match L[i]? with
  | some (some id) => some id
  | _ => none

theorem kept_some {L : List (Option Nat)} {i id : Nat} (h : L[i]? = some (some id)) : kept L i = some id := by unfold kept; rw [h]
theorem kept_ghost {L : List (Option Nat)} {i : Nat} (h : L[i]? = some none) : kept L i = none := by unfold kept; rw [h]
theorem kept_eq {L : List (Option Nat)} {i id : Nat} (h : kept L i = some id) : L[i]? = some (some id) := by
  unfold kept at h; split at h
  · cases h; assumption
  · cases h

def renv (E : Env) (L : List (Option Nat)) (base : Nat) (hp hp' : List AObj) : Env where
  F b := E.F b ∨ ∃ id, base ≤ id ∧ Live hp id ∧ some id ∉ L ∧ E.ρ id = some b
  N := L.length
  ρ i := (kept L i).bind E.ρ
  σ i := match kept L i with
    | some id => E.σ id
    | none => match hp'[i]? with
      | some (.arr sz _ _) => sz
      | _ => 0
  κ i := match kept L i with | some id => E.κ id | none => 0
  ω i := match kept L i with | some id => E.ω id | none => 0

section
variable {E : Env} {w : World} {hp hp' : List AObj} {L : List (Option Nat)} {base : Nat}

theorem reloc_rep (h : HeapOk E hp w) (hl : RelocH L base hp hp') {v v' : AV} (hle : AvLe hp L base v v') : ∀ {x : Value}, Rep E w v x → Rep (renv E L base hp hp') w v' x := by
  have hF : ∀ b, E.F b → (renv E L base hp hp').F b := fun b hb => .inl hb
  have hN : ∀ {i id : Nat}, L[i]? = some (some id) → i < (renv E L base hp hp').N := fun hi => get_lt hi
  have hρ : ∀ {i id : Nat}, L[i]? = some (some id) → (renv E L base hp hp').ρ i = E.ρ id := fun hi => by show (kept L _).bind E.ρ = _; rw [kept_some hi]; rfl
  have hσ : ∀ {i id : Nat}, L[i]? = some (some id) → (renv E L base hp hp').σ i = E.σ id := fun hi => by simp only [renv, kept_some hi]
  have hκ : ∀ {i id : Nat}, L[i]? = some (some id) → (renv E L base hp hp').κ i = E.κ id := fun hi => by simp only [renv, kept_some hi]
  have hω : ∀ {i id : Nat}, L[i]? = some (some id) → (renv E L base hp hp').ω i = E.ω id := fun hi => by simp only [renv, kept_some hi]
  induction hle with
  | undef v => intro x _; exact .undef x
  | refl v hv => intro x hx; exact .fz _ _ ((hx.toF hv).mono hF (fun _ _ => rfl))
  | sl id id' b n hL =>
    intro x hx
    cases hx with
    | fz _ _ hx => cases hx
    | sl _ _ _ av hi hle ha =>
      rw [← hκ hL]
      exact .sl id' b n av (hN hL) (by rw [hκ hL]; exact hle) (by rw [hκ hL, hρ hL, hσ hL, hω hL]; exact ha)
  | hptr id id' i o hL =>
    intro x hx
    cases hx with
    | fz _ _ hx => cases hx
    | hptr _ _ _ b hi hb =>
      rw [← hσ hL, ← hω hL]
      exact .hptr id' i o b (hN hL) (by rw [hρ hL]; exact hb)
  | mp id id' hL =>
    intro x hx
    cases hx with
    | fz _ _ hx => cases hx
    | mp _ b hi hb => exact .mp id' b (hN hL) (by rw [hρ hL]; exact hb)
  | frz id b n sz m row row' hid hb hL hn hr =>
    intro x hx
    exact .fz _ _ ((sl_frozen (h.obj id _ hid) hx hn hF (fun blk hblk => .inr ⟨id, hb, ⟨_, hid, by simp⟩, hL, hblk⟩)).congr hr)
  | list n row row' hr => intro x hx; exact .fz _ _ (((hx.toF rfl).congr hr).mono hF (fun _ _ => rfl))
  | nil row =>
    intro x hx
    cases hx with
    | fz _ _ hx => cases hx; exact .fz _ _ (.empty _ _ _)
  | znil row =>
    intro x hx
    cases hx with
    | fz _ _ hx => cases hx; exact .fz _ _ (.empty _ _ _)
  | ghost id hL =>
    intro x hx
    have hk : (renv E L base hp hp').κ id = 0 := by simp only [renv, kept_ghost hL]
    cases hx with
    | fz _ _ hx =>
      cases hx
      have := Rep.sl (E := renv E L base hp hp') (w := w) id 0 0 none (get_lt hL) (by rw [hk]; omega) (by rw [hk]; omega)
      rw [hk] at this; exact this
  | zghost id hL =>
    intro x hx
    have hk : (renv E L base hp hp').κ id = 0 := by simp only [renv, kept_ghost hL]
    cases hx with
    | fz _ _ hx =>
      cases hx with
      | zsl a =>
        have := Rep.sl (E := renv E L base hp hp') (w := w) id 0 0 a (get_lt hL) (by rw [hk]; omega) (by rw [hk]; omega)
        rw [hk] at this; exact this
  | agg cs cs' hn hh ih =>
    intro x hx
    cases hx with
    | fz _ _ hx => cases hx
    | agg _ vs hv hr =>
      refine .agg cs' vs (by omega) fun i c' hc' => ?_
      have hi : i < cs.length := by have := get_lt hc'; omega
      exact ih i _ c' (List.getElem?_eq_getElem hi) hc' (hr i _ (List.getElem?_eq_getElem hi))
  | tup cs cs' hn hh ih =>
    intro x hx
    cases hx with
    | fz _ _ hx => cases hx
    | tup _ vs hv hr =>
      refine .tup cs' vs (by omega) fun i c' hc' => ?_
      have hi : i < cs.length := by have := get_lt hc'; omega
      exact ih i _ c' (List.getElem?_eq_getElem hi) hc' (hr i _ (List.getElem?_eq_getElem hi))
  | clos f a c a' c' ha hc h1 h2 ih1 ih2 =>
    intro x hx
    cases hx with
    | fz _ _ hx => cases hx
    | clos _ _ _ xa xc hxa hxc g1 g2 =>
      refine .clos f a' c' xa xc (by omega) (by omega) (fun i v hv => ?_) (fun i v hv => ?_)
      · have hi : i < a.length := by have := get_lt hv; omega
        exact ih1 i _ v (List.getElem?_eq_getElem hi) hv (g1 i _ (List.getElem?_eq_getElem hi))
      · have hi : i < c.length := by have := get_lt hv; omega
        exact ih2 i _ v (List.getElem?_eq_getElem hi) hv (g2 i _ (List.getElem?_eq_getElem hi))

theorem reloc_live (hl : RelocH L base hp hp') {i : Nat} (hv : Live hp' i) : L[i]? = some none ∨ ∃ id, L[i]? = some (some id) ∧ Live hp id := by
  obtain ⟨o, ho, hn⟩ := hv
  have := hl.obj i o ho
  cases o with
  | dead => exact absurd rfl hn
  | slot => exact .inl this
  | arr sz n row =>
    rcases this with ⟨g, _⟩ | ⟨id, m, row, g1, g2, _⟩
    · exact .inl g
    · exact .inr ⟨id, g1, _, g2, by simp⟩
  | var cs => obtain ⟨id, cs, g1, g2, _⟩ := this; exact .inr ⟨id, g1, _, g2, by simp⟩
  | map es => obtain ⟨id, g1, g2⟩ := this; exact .inr ⟨id, g1, _, g2, by simp⟩

theorem reloc_blk (hl : RelocH L base hp hp') {i b : Nat} (hv : Live hp' i) (hb : (renv E L base hp hp').ρ i = some b) : ∃ id, L[i]? = some (some id) ∧ Live hp id ∧ E.ρ id = some b := by
  rcases reloc_live hl hv with g | ⟨id, g, q⟩
  · simp only [renv, kept_ghost g] at hb; cases hb
  · simp only [renv, kept_some g] at hb; exact ⟨id, g, q, hb⟩

theorem reloc_heap (h : HeapOk E hp w) (hl : RelocH L base hp hp') : HeapOk (renv E L base hp hp') hp' w where
  len := hl.len.symm
  obj i o' ho := by
    have hF : ∀ b, E.F b → (renv E L base hp hp').F b := fun b hb => .inl hb
    have := hl.obj i o' ho
    cases o' with
    | dead => trivial
    | slot => exact ⟨by simp only [renv, kept_ghost this]; rfl, by simp only [renv, kept_ghost this], by simp only [renv, kept_ghost this]⟩
    | arr sz n row' =>
      rcases this with ⟨g, g2, g3⟩ | ⟨id, m, row, g1, g2, g3, g4⟩
      · subst g2
        refine ⟨by simp only [renv, kept_ghost g, ho], g3, Nat.zero_le _, by simp only [renv, kept_ghost g]; decide, fun i hi => by omega, ?_⟩
        have : (renv E L base hp hp').ρ i = none := by simp only [renv, kept_ghost g]; rfl
        rw [this]; exact ⟨rfl, by simp only [renv, kept_ghost g]⟩
      · obtain ⟨e1, e2, e3, e4, e5, e6⟩ := h.obj id _ g2
        have hρ : (renv E L base hp hp').ρ i = E.ρ id := by simp only [renv, kept_some g1]; rfl
        have hσ : (renv E L base hp hp').σ i = E.σ id := by simp only [renv, kept_some g1]
        have hκ : (renv E L base hp hp').κ i = E.κ id := by simp only [renv, kept_some g1]
        have hω : (renv E L base hp hp').ω i = E.ω id := by simp only [renv, kept_some g1]
        refine ⟨by rw [hσ]; exact e1, e2, by rw [hκ]; omega, by rw [hκ]; exact e4, fun k hk => by rw [← g4 k hk]; exact e5 k (by omega), ?_⟩
        rw [hρ, hκ, hω]
        cases hr : E.ρ id with
        | none => rw [hr] at e6; exact ⟨by omega, e6.2⟩
        | some b =>
          rw [hr] at e6
          obtain ⟨arr, ty, f1, f2, f3⟩ := e6
          refine ⟨arr, ty, f1, f2, fun k j c hk hc => ?_⟩
          obtain ⟨v, q1, q2⟩ := f3 k j c (by omega) (by rw [g4 k hk]; exact hc)
          exact ⟨v, q1, q2.mono hF (fun _ _ => rfl)⟩
    | var cs' =>
      obtain ⟨id, cs, g1, g2, g3, g4⟩ := this
      obtain ⟨h0, b, arr, ty, e1, e2, e3, e4⟩ := h.obj id _ g2
      refine ⟨by simp only [renv, kept_some g1]; exact h0, b, arr, ty, by simp only [renv, kept_some g1]; exact e1, e2, by omega, fun j c' hj => ?_⟩
      have hjl : j < cs.length := by have := get_lt hj; omega
      have hc := List.getElem?_eq_getElem hjl
      obtain ⟨q1, q2⟩ := g4 j _ c' hc hj
      obtain ⟨_, v, r1, r2⟩ := e4 j _ hc
      exact ⟨q1, v, r1, reloc_rep h hl q2 r2⟩
    | map es =>
      obtain ⟨id, g1, g2⟩ := this
      obtain ⟨b, mes, clock, e0, e1, e2, e3⟩ := h.obj id _ g2
      refine ⟨b, mes, clock, by simp only [renv, kept_some g1]; exact e0, e1, e2, fun k e he => ?_⟩
      obtain ⟨me, q1, q2, q3⟩ := e3 k e he
      exact ⟨me, q1, q2.mono hF (fun _ _ => rfl), q3.mono hF (fun _ _ => rfl)⟩
  lt i b hv hb := by obtain ⟨id, _, g2, g3⟩ := reloc_blk hl hv hb; exact h.lt id b g2 g3
  fr i b hv hb hF := by
    obtain ⟨id, g1, g2, g3⟩ := reloc_blk hl hv hb
    rcases hF with hF | ⟨id', q1, q2, q3, q4⟩
    · exact h.fr id b g2 g3 hF
    · have := h.inj id id' b g2 q2 g3 q4
      subst this; exact q3 (List.mem_of_getElem? g1)
  inj i j b hi hj hbi hbj := by
    obtain ⟨id, g1, g2, g3⟩ := reloc_blk hl hi hbi
    obtain ⟨id', q1, q2, q3⟩ := reloc_blk hl hj hbj
    have := h.inj id id' b g2 q2 g3 q3
    subst this; exact hl.inj i j id g1 q1
  frz b hF := by
    rcases hF with hF | ⟨id', q1, q2, q3, q4⟩
    · exact h.frz b hF
    · exact h.lt id' b q2 q4

/-- The parts of a state that a function's end hands on. -/
structure RelocOk (E0 : Env) (H0 : List AObj) (w0 : World) (E E' : Env) (hp' : List AObj) (base : Nat) (w : World) : Prop where
  heap : HeapOk E' hp' w
  len : H0.length ≤ hp'.length
  old : ∀ id, id < base → Live hp' id → Live H0 id ∧ E'.ρ id = E0.ρ id ∧ E'.σ id = E0.σ id ∧ E'.κ id = E0.κ id ∧ E'.ω id = E0.ω id
  new : ∀ id b, base ≤ id → Live hp' id → E'.ρ id = some b → w0.heap.size ≤ b
  F : ∀ b, E0.F b → E'.F b
  Fnew : ∀ b, E'.F b → E0.F b ∨ w0.heap.size ≤ b

end

section
variable {E0 : Env} {H0 : List AObj} {w0 : World} {E : Env} {s s' : St} {a : Act} {w : World}

theorem Models.relocOk (h : Models E0 H0 w0 E s a w) {L : List (Option Nat)} {hp' : List AObj} (hl : RelocH L s.base s.hp hp') :
    RelocOk E0 H0 w0 E (renv E L s.base s.hp hp') hp' s.base w where
  heap := reloc_heap h.heap hl
  len := by have := hl.len; have := hl.le; have := h.base.1; omega
  old id hi hv := by
    have hL := hl.low id hi
    rcases reloc_live hl hv with g | ⟨id', g, q⟩
    · rw [g] at hL; cases hL
    · rw [g] at hL; cases hL
      obtain ⟨g1, g2, g3, g4, g5⟩ := h.old id hi q
      refine ⟨g1, ?_, ?_, ?_, ?_⟩ <;> simp only [renv, kept_some g] <;> assumption
  new id b hi hv hb := by
    obtain ⟨id', g1, g2, g3⟩ := reloc_blk hl hv hb
    refine h.new id' b ?_ g2 g3
    rcases Nat.lt_or_ge id' s.base with q | q
    · have := hl.inj id id' id' g1 (hl.low id' q); omega
    · exact q
  F b hb := .inl (h.F b hb)
  Fnew b hb := by
    rcases hb with hb | ⟨id, q1, q2, q3, q4⟩
    · exact h.Fnew b hb
    · exact .inr (h.new id b q1 q2 q4)

def Reloc (s s' : St) : Prop := s'.base = s.base ∧ s'.n = s.n ∧ ∃ L, RelocH L s.base s.hp s'.hp ∧ ∀ t, AvLe s.hp L s.base (look s.ch t) (look s'.ch t)

theorem Models.reloc (h : Models E0 H0 w0 E s a w) (hr : Reloc s s') : ∃ E', Models E0 H0 w0 E' s' a w := by
  obtain ⟨hb, hn, L, hl, ht⟩ := hr
  have hk := h.relocOk hl
  refine ⟨renv E L s.base s.hp s'.hp, ?_⟩
  constructor
  · rw [hn]; exact h.size
  · intro t; exact reloc_rep h.heap hl (ht t) (h.tmps t)
  · exact hk.heap
  · rw [hb]; exact ⟨h.base.1, hk.len⟩
  · rw [hb]; exact hk.old
  · rw [hb]; exact hk.new
  · exact hk.F
  · exact hk.Fnew
  · exact h.keeps

/-! ### rules to restate -/

theorem look_le {hp : List AObj} {L : List (Option Nat)} {base : Nat} {ch : List (Nat × AV)} : ∀ {ch' : List (Nat × AV)}, (∀ p ∈ ch', AvLe hp L base (look ch p.1) p.2) → ∀ t, AvLe hp L base (look ch t) (look ch' t)
  | [], _, t => .undef _
  | p :: r, h, t => by
    rw [look_val]
    split
    · rename_i e; subst e; exact h p (by simp)
    · exact look_le (fun q hq => h q (by simp [hq])) t

theorem inj_of {L : List (Option Nat)} (h : L.Pairwise fun a b => a = none ∨ a ≠ b) : ∀ (i j id : Nat), L[i]? = some (some id) → L[j]? = some (some id) → i = j := by
  intro i j id hi hj
  have hil := get_lt hi
  have hjl := get_lt hj
  rw [List.getElem?_eq_getElem hil, Option.some.injEq] at hi
  rw [List.getElem?_eq_getElem hjl, Option.some.injEq] at hj
  have hp := List.pairwise_iff_getElem.1 h
  rcases Nat.lt_trichotomy i j with g | g | g
  · rcases hp i j hil hjl g with q | q
    · rw [hi] at q; cases q
    · rw [hi, hj] at q; exact absurd rfl q
  · exact g
  · rcases hp j i hjl hil g with q | q
    · rw [hj] at q; cases q
    · rw [hi, hj] at q; exact absurd rfl q

theorem Reloc.mk' {L : List (Option Nat)} {ch' : List (Nat × AV)} {hp' : List AObj} {c : Prop} (hb : s.base = 0) (hlen : hp'.length = L.length) (hinj : L.Pairwise fun a b => a = none ∨ a ≠ b)
    (hobj : ∀ (i : Nat) o', hp'[i]? = some o' → ObjLe s.hp L s.base i o') (hch : ∀ p ∈ ch', AvLe s.hp L s.base (look s.ch p.1) p.2) :
    Reloc s { ch := ch', hp := hp', base := s.base, n := s.n, cond := c } :=
  ⟨rfl, rfl, L, ⟨hlen, by omega, fun i hi => by omega, inj_of hinj, hobj⟩, look_le hch⟩

end
end Go.Av

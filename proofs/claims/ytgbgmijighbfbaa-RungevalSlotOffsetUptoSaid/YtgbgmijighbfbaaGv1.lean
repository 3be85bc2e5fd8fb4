/- The Av framework: representation lemmas. No law is proved here. -/
import Derived.Test.YtgbgmijighbfbaaGv0
set_option linter.unusedSimpArgs false
set_option linter.unusedVariables false
set_option linter.unusedSectionVars false
namespace Go.Av

theorem RepF.mono {F F' : Nat → Prop} {w w' : World} {v : AV} {x : Value} (h : RepF F w v x) (hF : ∀ b, F b → F' b) (hw : ∀ b, F b → w'.heap[b]? = w.heap[b]?) : RepF F' w' v x := by
  induction h with
  | bool b => exact .bool b
  | int k n => exact .int k n
  | str s => exact .str s
  | nilptr => exact .nilptr
  | nilmap => exact .nilmap
  | nilif => exact .nilif
  | nilfn => exact .nilfn
  | nilsl => exact .nilsl
  | zsl a => exact .zsl a
  | iface t v x _ ih => exact .iface t v x ih
  | empty row a cap => exact .empty row a cap
  | list n row b o cap sz vs h1 hcap hsz hc hf _ ih =>
    exact .list n row b o cap sz vs (hF _ h1) hcap hsz (fun i j c hi hj => by rw [← hc i j c hi hj]; exact World.cell?_of_block (hw _ h1)) hf ih
  | fptr cells b o vs h1 hc hf _ ih =>
    exact .fptr cells b o vs (hF _ h1) (fun j c hj => by rw [← hc j c hj]; exact World.cell?_of_block (hw _ h1)) hf ih

theorem RepF.oneCell {F : Nat → Prop} {w : World} {v : AV} {x : Value} (h : RepF F w v x) : x.oneCell' = true := by cases h <;> rfl

theorem RepF.isFree {F : Nat → Prop} {w : World} {v : AV} {x : Value} (h : RepF F w v x) : isFree v = true := by cases h <;> rfl

/-- No reference into the owned heap or to a local box stands in the value. -/
theorem RepP.mono {F F' : Nat → Prop} {w w' : World} {v : AV} {x : Value} (h : RepP F w v x) (hF : ∀ b, F b → F' b) (hw : ∀ b, F b → w'.heap[b]? = w.heap[b]?) : RepP F' w' v x := by
  rcases h with h | ⟨cs, xs, e1, e2, e3, h⟩
  · exact .inl (h.mono hF hw)
  · exact .inr ⟨cs, xs, e1, e2, e3, fun j c hj => (h j c hj).mono hF hw⟩

theorem Rep.toF {E : Env} {w : World} {v : AV} {x : Value} (h : Rep E w v x) (hv : isFree v = true) : RepF E.F w v x := by
  cases h with
  | fz v x h => exact h
  | undef | sl | hptr | mp | agg | tup | clos => simp [Go.Av.isFree] at hv

theorem Rep.oneCell {E : Env} {w : World} {v : AV} {x : Value} (h : Rep E w v x) (hv : isCell v = true) : x.oneCell' = true := by
  cases h with
  | fz v x h => exact h.oneCell
  | undef | agg | tup => simp [isCell] at hv
  | sl | hptr | mp | clos => rfl

/-- The value with its references: what an environment must agree on. -/
structure Env.Le (E E' : Env) : Prop where
  F : ∀ b, E.F b → E'.F b
  N : E.N ≤ E'.N
  ρ : ∀ i, i < E.N → E'.ρ i = E.ρ i
  σ : ∀ i, i < E.N → E'.σ i = E.σ i
  κ : ∀ i, i < E.N → E'.κ i = E.κ i
  ω : ∀ i, i < E.N → E'.ω i = E.ω i

theorem Rep.mono {E E' : Env} {w w' : World} {v : AV} {x : Value} (h : Rep E w v x) (hE : E.Le E') (hw : ∀ b, E.F b → w'.heap[b]? = w.heap[b]?) : Rep E' w' v x := by
  induction h with
  | undef x => exact .undef x
  | fz v x h => exact .fz v x (h.mono hE.F hw)
  | sl id base len av hi h ha =>
    rw [← hE.κ id hi]
    exact .sl id base len av (Nat.lt_of_lt_of_le hi hE.N) (by rw [hE.κ id hi]; exact h) (by rw [hE.ρ id hi, hE.κ id hi, hE.σ id hi, hE.ω id hi]; exact ha)
  | hptr id idx off b hi h =>
    rw [← hE.σ id hi, ← hE.ω id hi]
    exact .hptr id idx off b (Nat.lt_of_lt_of_le hi hE.N) (by rw [hE.ρ id hi]; exact h)
  | mp id b hi h => exact .mp id b (Nat.lt_of_lt_of_le hi hE.N) (by rw [hE.ρ id hi]; exact h)
  | agg cells vs hn _ ih => exact .agg cells vs hn ih
  | tup cells vs hn _ ih => exact .tup cells vs hn ih
  | clos f a c xa xc ha hc _ _ ih1 ih2 => exact .clos f a c xa xc ha hc ih1 ih2

theorem getElem?_map_some {α β : Type} {f : α → β} {l : List α} {i : Nat} {c : β} (h : (l.map f)[i]? = some c) : ∃ a, l[i]? = some a ∧ f a = c := by
  simpa using h

end Go.Av

/- The Av framework: codecs of lists of rows. No law is proved here. -/
import Derived.Test.YtgbgmijighbfbaaGv24
import Derived.Test.YtgbgmijighbfbaaGv27
set_option linter.unusedSimpArgs false
set_option linter.unusedVariables false
set_option linter.unusedSectionVars false
namespace Go.Av
open Go.ChangeShapes Go.RowKit

section
variable {P : Program} {n : Nat} {t e : TypeId} {α β : Type}

def kB : Cod Bool := ⟨cB, fun _ => 1, fun _ => True⟩
def kI (k : IntKind) : Cod Int := ⟨cI k, fun _ => 1, fun n => (Lit.int k n).wf = true⟩
def kS : Cod Str := ⟨cS, fun s => s.size + 1, fun _ => True⟩
def kL (c : Cod α) : Cod (List α) := ⟨fun l => [aL c.cells l], fun l => (l.map c.sz).sum + 1, fun l => ∀ a ∈ l, c.ok a⟩

theorem o_kB (ht : P.underlying t = some .bool) : Opens P n t kB := (opens_bool ht).map kB (fun b => b) (fun _ _ => trivial) (fun _ => Nat.le_refl _) (fun _ => rfl)
theorem o_kI {k : IntKind} (ht : P.underlying t = some (.int k)) : Opens P n t (kI k) := (opens_int ht).map (kI k) (fun b => b) (fun _ h => h) (fun _ => Nat.le_refl _) (fun _ => rfl)
theorem o_kS (ht : P.underlying t = some .string) : Opens P n t kS := (opens_str ht).map kS (fun b => b) (fun _ _ => trivial) (fun _ => Nat.le_refl _) (fun _ => rfl)

theorem RowRep.list {w : World} {m : Nat} {row row' : Nat → List AV} {cs : List Value} (h : RowRep w [.list m row] cs) (hr : ∀ i, i < m → row i = row' i) : RowRep w [.list m row'] cs := by
  refine ⟨h.1, fun j c hj => ?_⟩
  cases j with
  | zero =>
    simp at hj; subst hj
    have := h.2 0 _ rfl
    exact ⟨rfl, RepF.congr this.2 hr⟩
  | succ j => simp at hj

theorem o_kL [Inhabited α] {c : Cod α} {k : Nat} (ht : P.underlying t = some (.slice e)) (hk : P.cellsOf e = k + 1) (hsz : ∀ a, (c.cells a).length = k + 1) (he : ∀ n, Opens P n e c) (n : Nat) : Opens P n t (kL c) := by
  revert n
  refine opens_any fun n => ?_
  constructor
  intro H enc B hB w base spare held fuel cs x hn hx
  obtain ⟨l, h1, h2, h3⟩ := (opens_slice' ht hk hsz (he n)).go hB hn hx
  refine ⟨l, h1, h2, h3.list fun i hi => ?_⟩
  simp [rw, List.getD, List.getElem?_map, List.getElem?_eq_getElem hi]

theorem kL_len {c : Cod α} (h : ∀ a, 1 ≤ c.sz a) (l : List α) : l.length ≤ (kL c).sz l := by
  show l.length ≤ (l.map c.sz).sum + 1
  induction l with
  | nil => simp
  | cons a l ih => have := h a; simp at ih ⊢; omega
end
end Go.Av

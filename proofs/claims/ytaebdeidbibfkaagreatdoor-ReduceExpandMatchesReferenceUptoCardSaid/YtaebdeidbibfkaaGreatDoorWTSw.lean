/- Trees: two ways to count nodes. No law is proved here. -/
import Derived.Test.YtaebdeidbibfkaaGreatDoorWR0
import Derived.Test.YtaebdeidbibfkaaGreatDoorWLawM10
set_option linter.unusedSimpArgs false
set_option linter.unusedVariables false
set_option linter.unusedSectionVars false
namespace Go.Proofs.YtaebdeidbibfkaaGreatDoor
open Go.Av Go.G
theorem sz_eq : ∀ t : TreeTree, szT t = sTreeTree t := by
  intro t
  induction t using tree_ind with
  | h K N ks ih =>
    have hs : ∀ js : List TreeTree, (∀ k ∈ js, szT k = sTreeTree k) → szL js = sTreeTrees js := by
      intro js
      induction js with
      | nil => intro _; rfl
      | cons k js ihj => intro h; rw [szL, sTreeTrees, h k (by simp), ihj fun k hk => h k (by simp [hk])]
    rw [szT, sTreeTree, hs ks ih]
end Go.Proofs.YtaebdeidbibfkaaGreatDoor

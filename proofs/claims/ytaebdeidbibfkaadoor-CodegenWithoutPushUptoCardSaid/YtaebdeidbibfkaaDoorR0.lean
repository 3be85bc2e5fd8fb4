/- The arguments of the laws, as abstract values. No law is proved here. -/
import Derived.Test.YtaebdeidbibfkaaDoorRows
import Derived.Test.YtaebdeidbibfkaaDoorAvM9
import Derived.Test.YtaebdeidbibfkaaDoorGTy
import Derived.Test.YtaebdeidbibfkaaDoorTab
set_option linter.unusedSimpArgs false
set_option linter.unusedVariables false
set_option linter.unusedSectionVars false
namespace Go.Proofs.YtaebdeidbibfkaaDoor
open Go.Av Go.G

theorem own : ownKnob Tryd.prog.godebug = none := by kernel_rfl
theorem laid_out : laidOutB Tryd.prog = true := by kernel_rfl

mutual
theorem bulk_one {H : Type} : ∀ d : DataW H, 1 ≤ Rows.uptoBulk d
  | .lit (.string b) => by simp [Rows.uptoBulk]
  | .lit (.bool b) => by simp [Rows.uptoBulk]
  | .lit (.int k b) => by simp [Rows.uptoBulk]
  | .lit .nil => by simp [Rows.uptoBulk]
  | .lit (.float k b) => by simp [Rows.uptoBulk]
  | .nil => by simp [Rows.uptoBulk]
  | .ptr d => by simp [Rows.uptoBulk]
  | .slice es sp => by simp [Rows.uptoBulk]
  | .agg ps => by simp [Rows.uptoBulk]
  | .iface t d => by simp [Rows.uptoBulk]
  | .map es => by simp [Rows.uptoBulk]
  | .held h => by simp [Rows.uptoBulk]
end

theorem bulk_all {H : Type} : ∀ ds : List (DataW H), Rows.uptoBulkAll ds = (ds.map Rows.uptoBulk).sum
  | [] => rfl
  | d :: r => by simp [Rows.uptoBulkAll, bulk_all r]

theorem bulk_ok {H : Type} : BulkOk (Rows.uptoBulk (H := H)) where
  str l := by simp [Rows.uptoBulk]
  one := bulk_one
  slice es sp := by simp only [Rows.uptoBulk, bulk_all]; omega
  agg ps := by simp only [Rows.uptoBulk, bulk_all]; omega

theorem bulk_small {H : Type} {ds : List (DataW H)} (h : Rows.uptoSmall H ds = true) : (ds.map Rows.uptoBulk).sum ≤ 1048576 := by
  rw [← bulk_all]; exact of_decide_eq_true h

theorem sum_mem {α : Type} (f : α → Nat) {r : α} : ∀ {l : List α}, r ∈ l → f r ≤ (l.map f).sum
  | [], hr => by simp at hr
  | a :: l, hr => by
    simp only [List.map_cons, List.sum_cons]
    rcases List.mem_cons.1 hr with e | e
    · subst e; omega
    · have := sum_mem f e; omega

theorem kL_mem {α : Type} {c : Cod α} {l : List α} {r : α} (hr : r ∈ l) {N : Nat} (h : (kL c).sz l ≤ N) : c.sz r ≤ N := by
  have h : (l.map c.sz).sum + 1 ≤ N := h
  have h2 := sum_mem c.sz hr
  omega

set_option maxRecDepth 100000
theorem oa_4 : OpensA Tryd.prog 4 kB (.bool) := opensA_cell (fun _ => rfl) (fun d hd => by rw [Tryd.underlying4] at hd; cases hd; trivial) (fun _ => o_kB Tryd.underlying4)

theorem o_52 (n : Nat) : Opens Tryd.prog n 52 (kL (kI .u8)) := o_kL (k := 0) Tryd.underlying52 (by kernel_rfl) (fun _ => rfl) (fun _ => o_kI Tryd.underlying5) n

theorem oa_52 : OpensA Tryd.prog 52 (kL (kI .u8)) (aL (kI .u8).cells) := opensA_cell (fun _ => rfl) (fun d hd => by rw [Tryd.underlying52] at hd; cases hd; trivial) o_52

end Go.Proofs.YtaebdeidbibfkaaDoor

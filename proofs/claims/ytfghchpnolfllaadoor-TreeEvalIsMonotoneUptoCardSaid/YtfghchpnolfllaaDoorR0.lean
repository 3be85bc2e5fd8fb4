/- The arguments of the laws, as abstract values. No law is proved here. -/
import Derived.Test.YtfghchpnolfllaaDoorRows
import Derived.Test.YtfghchpnolfllaaDoorAvM9
import Derived.Test.YtfghchpnolfllaaDoorGTy
import Derived.Test.YtfghchpnolfllaaDoorTab
set_option linter.unusedSimpArgs false
set_option linter.unusedVariables false
set_option linter.unusedSectionVars false
namespace Go.Proofs.YtfghchpnolfllaaDoor
open Go.Av Go.G

theorem own : ownKnob Tryd.prog.godebug = none := by kernel_rfl
theorem laid_out : laidOutB Tryd.prog = true := by kernel_rfl

mutual
theorem bulk_one {H : Type} : ∀ d : DataW H, 1 ≤ Rows.uptoBulk d
  | .lit (.string b) => by simp [Rows.uptoBulk]
  | .lit (.bool b) => by simp [Rows.uptoBulk]
  | .lit (.int k b) => by simp [Rows.uptoBulk]
  | .lit .nil => by simp [Rows.uptoBulk]
  | .lit (.float k b) => by simp [Rows.uptoBulk]
  | .nil => by simp [Rows.uptoBulk]
  | .ptr d => by simp [Rows.uptoBulk]
  | .slice es sp => by simp [Rows.uptoBulk]
  | .agg ps => by simp [Rows.uptoBulk]
  | .iface t d => by simp [Rows.uptoBulk]
  | .map es => by simp [Rows.uptoBulk]
  | .held h => by simp [Rows.uptoBulk]
end

theorem bulk_all {H : Type} : ∀ ds : List (DataW H), Rows.uptoBulkAll ds = (ds.map Rows.uptoBulk).sum
  | [] => rfl
  | d :: r => by simp [Rows.uptoBulkAll, bulk_all r]

theorem bulk_ok {H : Type} : BulkOk (Rows.uptoBulk (H := H)) where
  str l := by simp [Rows.uptoBulk]
  one := bulk_one
  slice es sp := by simp only [Rows.uptoBulk, bulk_all]; omega
  agg ps := by simp only [Rows.uptoBulk, bulk_all]; omega

theorem bulk_small {H : Type} {ds : List (DataW H)} (h : Rows.uptoSmall H ds = true) : (ds.map Rows.uptoBulk).sum ≤ 1048576 := by
  rw [← bulk_all]; exact of_decide_eq_true h

theorem sum_mem {α : Type} (f : α → Nat) {r : α} : ∀ {l : List α}, r ∈ l → f r ≤ (l.map f).sum
  | [], hr => by simp at hr
  | a :: l, hr => by
    simp only [List.map_cons, List.sum_cons]
    rcases List.mem_cons.1 hr with e | e
    · subst e; omega
    · have := sum_mem f e; omega

theorem kL_mem {α : Type} {c : Cod α} {l : List α} {r : α} (hr : r ∈ l) {N : Nat} (h : (kL c).sz l ≤ N) : c.sz r ≤ N := by
  have h : (l.map c.sz).sum + 1 ≤ N := h
  have h2 := sum_mem c.sz hr
  omega

set_option maxRecDepth 100000
theorem oa_3 : OpensA Tryd.prog 3 (kI .i64) (.int .i64) := opensA_cell (fun _ => rfl) (fun d hd => by rw [Tryd.underlying3] at hd; cases hd; trivial) (fun _ => o_kI Tryd.underlying3)

theorem oa_4 : OpensA Tryd.prog 4 kB (.bool) := opensA_cell (fun _ => rfl) (fun d hd => by rw [Tryd.underlying4] at hd; cases hd; trivial) (fun _ => o_kB Tryd.underlying4)

theorem oa_5 : OpensA Tryd.prog 5 (kI .u8) (.int .u8) := opensA_cell (fun _ => rfl) (fun d hd => by rw [Tryd.underlying5] at hd; cases hd; trivial) (fun _ => o_kI Tryd.underlying5)

mutual
def sTreeTree : TreeTree → Nat
  | .mk _ _ Kids => 1 + sTreeTrees Kids
def sTreeTrees : List TreeTree → Nat
  | [] => 0
  | t :: ts => sTreeTree t + sTreeTrees ts
end
theorem sTreeTrees_map : ∀ l, sTreeTrees l = (l.map sTreeTree).sum
  | [] => rfl
  | t :: ts => by rw [sTreeTrees, sTreeTrees_map ts]; rfl
def kTreeTree : Cod TreeTree := ⟨cTreeTree, sTreeTree, fun _ => True⟩

theorem or_24 : ∀ n, Opens Tryd.prog n 24 kTreeTree ∧ Opens Tryd.prog n 22 (kL kTreeTree)
  | 0 => ⟨opens_zero, opens_zero⟩
  | n + 1 => by
    have ih := or_24 n
    refine ⟨(opens_struct Tryd.underlying24 (by kernel_rfl) (opensF_cons rfl ((fun _ => o_kI Tryd.underlying3) n) (opensF_cons rfl ((fun _ => o_kI Tryd.underlying3) n) (opensF_cons rfl ih.2 opensF_nil)))).map kTreeTree (fun p => .mk (p.1) (p.2.1) (p.2.2.1)) (fun _ _ => trivial) (fun p => ?_) (fun p => ?_), o_kL1 (k := 2) Tryd.underlying22 (by kernel_rfl) (fun a => by obtain ⟨Kind, N, Kids⟩ := a; rfl) ih.1⟩
    · simp only [kTreeTree, sTreeTree, sTreeTrees_map, codProd, kL, kI, kB, kS]; omega
    · simp only [kTreeTree, cTreeTree_eq, codProd, kL, kI, kB, kS, cI, cB, cS, codUnit]; rfl
theorem o_24 (n : Nat) : Opens Tryd.prog n 24 kTreeTree := (or_24 n).1

theorem oa_24 : OpensA Tryd.prog 24 kTreeTree fun a => .agg (cTreeTree a) := opensA_agg Tryd.underlying24 o_24

theorem o_25 (n : Nat) : Opens Tryd.prog n 25 (kL kB) := o_kL (k := 0) Tryd.underlying25 (by kernel_rfl) (fun _ => rfl) (fun _ => o_kB Tryd.underlying4) n

theorem oa_25 : OpensA Tryd.prog 25 (kL kB) (aL kB.cells) := opensA_cell (fun _ => rfl) (fun d hd => by rw [Tryd.underlying25] at hd; cases hd; trivial) o_25

end Go.Proofs.YtfghchpnolfllaaDoor

/- The arguments of the laws, as abstract values. No law is proved here. -/
import Derived.Test.YtaebdeidbibfkaaGreatDoorRows
import Derived.Test.YtaebdeidbibfkaaGreatDoorWAvM9
import Derived.Test.YtaebdeidbibfkaaGreatDoorWGTy
import Derived.Test.YtaebdeidbibfkaaGreatDoorWTaw
set_option linter.unusedSimpArgs false
set_option linter.unusedVariables false
set_option linter.unusedSectionVars false
namespace Go.Proofs.YtaebdeidbibfkaaGreatDoor
open Go.Av Go.G

theorem own : ownKnob Tryz.prog.godebug = none := by kernel_rfl
theorem laid_out : laidOutB Tryz.prog = true := by kernel_rfl

mutual
theorem bulk_one {H : Type} : ∀ d : DataW H, 1 ≤ Rows.uptoBulk d
  | .lit (.string b) => by simp [Rows.uptoBulk]
  | .lit (.bool b) => by simp [Rows.uptoBulk]
  | .lit (.int k b) => by simp [Rows.uptoBulk]
  | .lit .nil => by simp [Rows.uptoBulk]
  | .lit (.float k b) => by simp [Rows.uptoBulk]
  | .nil => by simp [Rows.uptoBulk]
  | .ptr d => by simp [Rows.uptoBulk]
  | .slice es sp => by simp [Rows.uptoBulk]
  | .agg ps => by simp [Rows.uptoBulk]
  | .iface t d => by simp [Rows.uptoBulk]
  | .map es => by simp [Rows.uptoBulk]
  | .held h => by simp [Rows.uptoBulk]
end

theorem bulk_all {H : Type} : ∀ ds : List (DataW H), Rows.uptoBulkAll ds = (ds.map Rows.uptoBulk).sum
  | [] => rfl
  | d :: r => by simp [Rows.uptoBulkAll, bulk_all r]

theorem bulk_ok {H : Type} : BulkOk (Rows.uptoBulk (H := H)) where
  str l := by simp [Rows.uptoBulk]
  one := bulk_one
  slice es sp := by simp only [Rows.uptoBulk, bulk_all]; omega
  agg ps := by simp only [Rows.uptoBulk, bulk_all]; omega

theorem bulk_small {H : Type} {ds : List (DataW H)} (h : Rows.uptoSmall H ds = true) : (ds.map Rows.uptoBulk).sum ≤ 1048576 := by
  rw [← bulk_all]; exact of_decide_eq_true h

theorem sum_mem {α : Type} (f : α → Nat) {r : α} : ∀ {l : List α}, r ∈ l → f r ≤ (l.map f).sum
  | [], hr => by simp at hr
  | a :: l, hr => by
    simp only [List.map_cons, List.sum_cons]
    rcases List.mem_cons.1 hr with e | e
    · subst e; omega
    · have := sum_mem f e; omega

theorem kL_mem {α : Type} {c : Cod α} {l : List α} {r : α} (hr : r ∈ l) {N : Nat} (h : (kL c).sz l ≤ N) : c.sz r ≤ N := by
  have h : (l.map c.sz).sum + 1 ≤ N := h
  have h2 := sum_mem c.sz hr
  omega

set_option maxRecDepth 100000
def kApiAddr : Cod ApiAddr := ⟨cApiAddr, fun x => (kI .i64).sz x.Space + ((kI .i64).sz x.N + 0), fun x => (kI .i64).ok x.Space ∧ (kI .i64).ok x.N ∧ True⟩
theorem o_52 (n : Nat) : Opens Tryz.prog n 52 kApiAddr := by
  revert n
  exact opens_any fun n => (opens_struct Tryz.underlying52 (by kernel_rfl) (opensF_cons rfl ((fun _ => o_kI Tryz.underlying3) n) (opensF_cons rfl ((fun _ => o_kI Tryz.underlying3) n) opensF_nil))).map kApiAddr (fun p => ⟨p.1, p.2.1⟩) (fun _ h => h) (fun _ => Nat.le_refl _) (fun _ => rfl)

def kApiContact : Cod ApiContact := ⟨cApiContact, fun x => (kI .i64).sz x.Kind + (kApiAddr.sz x.A + (kS.sz x.From + (kS.sz x.To + 0))), fun x => (kI .i64).ok x.Kind ∧ kApiAddr.ok x.A ∧ kS.ok x.From ∧ kS.ok x.To ∧ True⟩
theorem o_82 (n : Nat) : Opens Tryz.prog n 82 kApiContact := by
  revert n
  exact opens_any fun n => (opens_struct Tryz.underlying82 (by kernel_rfl) (opensF_cons rfl ((fun _ => o_kI Tryz.underlying3) n) (opensF_cons rfl (o_52 n) (opensF_cons rfl ((fun _ => o_kS Tryz.underlying9) n) (opensF_cons rfl ((fun _ => o_kS Tryz.underlying9) n) opensF_nil))))).map kApiContact (fun p => ⟨p.1, p.2.1, p.2.2.1, p.2.2.2.1⟩) (fun _ h => h) (fun _ => Nat.le_refl _) (fun _ => rfl)

theorem o_22 (n : Nat) : Opens Tryz.prog n 22 (kL kApiContact) := o_kL (k := 4) Tryz.underlying22 (by kernel_rfl) (fun _ => rfl) o_82 n

theorem oa_22 : OpensA Tryz.prog 22 (kL kApiContact) (aL kApiContact.cells) := opensA_cell (fun _ => rfl) (fun d hd => by rw [Tryz.underlying22] at hd; cases hd; trivial) o_22

mutual
def sTreeTree : TreeTree → Nat
  | .mk _ _ Kids => 1 + sTreeTrees Kids
def sTreeTrees : List TreeTree → Nat
  | [] => 0
  | t :: ts => sTreeTree t + sTreeTrees ts
end
theorem sTreeTrees_map : ∀ l, sTreeTrees l = (l.map sTreeTree).sum
  | [] => rfl
  | t :: ts => by rw [sTreeTrees, sTreeTrees_map ts]; rfl
def kTreeTree : Cod TreeTree := ⟨cTreeTree, sTreeTree, fun _ => True⟩

theorem or_30 : ∀ n, Opens Tryz.prog n 30 kTreeTree ∧ Opens Tryz.prog n 28 (kL kTreeTree)
  | 0 => ⟨opens_zero, opens_zero⟩
  | n + 1 => by
    have ih := or_30 n
    refine ⟨(opens_struct Tryz.underlying30 (by kernel_rfl) (opensF_cons rfl ((fun _ => o_kI Tryz.underlying3) n) (opensF_cons rfl ((fun _ => o_kI Tryz.underlying3) n) (opensF_cons rfl ih.2 opensF_nil)))).map kTreeTree (fun p => .mk (p.1) (p.2.1) (p.2.2.1)) (fun _ _ => trivial) (fun p => ?_) (fun p => ?_), o_kL1 (k := 2) Tryz.underlying28 (by kernel_rfl) (fun a => by obtain ⟨Kind, N, Kids⟩ := a; rfl) ih.1⟩
    · simp only [kTreeTree, sTreeTree, sTreeTrees_map, codProd, kL, kI, kB, kS]; omega
    · simp only [kTreeTree, cTreeTree_eq, codProd, kL, kI, kB, kS, cI, cB, cS, codUnit]; rfl
theorem o_30 (n : Nat) : Opens Tryz.prog n 30 kTreeTree := (or_30 n).1

theorem oa_30 : OpensA Tryz.prog 30 kTreeTree fun a => .agg (cTreeTree a) := opensA_agg Tryz.underlying30 o_30

end Go.Proofs.YtaebdeidbibfkaaGreatDoor

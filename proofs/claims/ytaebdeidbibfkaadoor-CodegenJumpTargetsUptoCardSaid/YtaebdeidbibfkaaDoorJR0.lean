/- The arguments of the laws, as abstract values. No law is proved here. -/
import Derived.Test.YtaebdeidbibfkaaDoorRows
import Derived.Test.YtaebdeidbibfkaaDoorJAvM9
import Derived.Test.YtaebdeidbibfkaaDoorJGTy
import Derived.Test.YtaebdeidbibfkaaDoorJTaj
set_option linter.unusedSimpArgs false
set_option linter.unusedVariables false
set_option linter.unusedSectionVars false
namespace Go.Proofs.YtaebdeidbibfkaaDoor
open Go.Av Go.G
theorem own : ownKnob Tryd.prog.godebug = none := by kernel_rfl
theorem laid_out : laidOutB Tryd.prog = true := by kernel_rfl
mutual
theorem bulk_one {H : Type} : ∀ d : DataW H, 1 ≤ Rows.uptoBulk d
  | .lit (.string b) => by simp [Rows.uptoBulk]
  | .lit (.bool b) => by simp [Rows.uptoBulk]
  | .lit (.int k b) => by simp [Rows.uptoBulk]
  | .lit .nil => by simp [Rows.uptoBulk]
  | .lit (.float k b) => by simp [Rows.uptoBulk]
  | .nil => by simp [Rows.uptoBulk]
  | .ptr d => by simp [Rows.uptoBulk]
  | .slice es sp => by simp [Rows.uptoBulk]
  | .agg ps => by simp [Rows.uptoBulk]
  | .iface t d => by simp [Rows.uptoBulk]
  | .map es => by simp [Rows.uptoBulk]
  | .held h => by simp [Rows.uptoBulk]
end
theorem bulk_all {H : Type} : ∀ ds : List (DataW H), Rows.uptoBulkAll ds = (ds.map Rows.uptoBulk).sum
  | [] => rfl
  | d :: r => by simp [Rows.uptoBulkAll, bulk_all r]
theorem bulk_ok {H : Type} : BulkOk (Rows.uptoBulk (H := H)) where
  str l := by simp [Rows.uptoBulk]
  one := bulk_one
  slice es sp := by simp only [Rows.uptoBulk, bulk_all]; omega
  agg ps := by simp only [Rows.uptoBulk, bulk_all]; omega
theorem bulk_small {H : Type} {ds : List (DataW H)} (h : Rows.uptoSmall H ds = true) : (ds.map Rows.uptoBulk).sum ≤ 1048576 := by
  rw [← bulk_all]; exact of_decide_eq_true h
theorem sum_mem {α : Type} (f : α → Nat) {r : α} : ∀ {l : List α}, r ∈ l → f r ≤ (l.map f).sum
  | [], hr => by simp at hr
  | a :: l, hr => by
    simp only [List.map_cons, List.sum_cons]
    rcases List.mem_cons.1 hr with e | e
    · subst e; omega
    · have := sum_mem f e; omega
theorem kL_mem {α : Type} {c : Cod α} {l : List α} {r : α} (hr : r ∈ l) {N : Nat} (h : (kL c).sz l ≤ N) : c.sz r ≤ N := by
  have h : (l.map c.sz).sum + 1 ≤ N := h
  have h2 := sum_mem c.sz hr
  omega
set_option maxRecDepth 100000
def kApiAddr : Cod ApiAddr := ⟨cApiAddr, fun x => (kI .i64).sz x.Space + ((kI .i64).sz x.N + 0), fun x => (kI .i64).ok x.Space ∧ (kI .i64).ok x.N ∧ True⟩
theorem o_38 (n : Nat) : Opens Tryd.prog n 38 kApiAddr := by
  revert n
  exact opens_any fun n => (opens_struct Tryd.underlying38 (by kernel_rfl) (opensF_cons rfl ((fun _ => o_kI Tryd.underlying3) n) (opensF_cons rfl ((fun _ => o_kI Tryd.underlying3) n) opensF_nil))).map kApiAddr (fun p => ⟨p.1, p.2.1⟩) (fun _ h => h) (fun _ => Nat.le_refl _) (fun _ => rfl)
def kApiContact : Cod ApiContact := ⟨cApiContact, fun x => (kI .i64).sz x.Kind + (kApiAddr.sz x.A + (kS.sz x.From + (kS.sz x.To + 0))), fun x => (kI .i64).ok x.Kind ∧ kApiAddr.ok x.A ∧ kS.ok x.From ∧ kS.ok x.To ∧ True⟩
theorem o_40 (n : Nat) : Opens Tryd.prog n 40 kApiContact := by
  revert n
  exact opens_any fun n => (opens_struct Tryd.underlying40 (by kernel_rfl) (opensF_cons rfl ((fun _ => o_kI Tryd.underlying3) n) (opensF_cons rfl (o_38 n) (opensF_cons rfl ((fun _ => o_kS Tryd.underlying9) n) (opensF_cons rfl ((fun _ => o_kS Tryd.underlying9) n) opensF_nil))))).map kApiContact (fun p => ⟨p.1, p.2.1, p.2.2.1, p.2.2.2.1⟩) (fun _ h => h) (fun _ => Nat.le_refl _) (fun _ => rfl)
def kApiCoil : Cod ApiCoil := ⟨cApiCoil, fun x => (kI .i64).sz x.Kind + (kApiAddr.sz x.A + 0), fun x => (kI .i64).ok x.Kind ∧ kApiAddr.ok x.A ∧ True⟩
theorem o_124 (n : Nat) : Opens Tryd.prog n 124 kApiCoil := by
  revert n
  exact opens_any fun n => (opens_struct Tryd.underlying124 (by kernel_rfl) (opensF_cons rfl ((fun _ => o_kI Tryd.underlying3) n) (opensF_cons rfl (o_38 n) opensF_nil))).map kApiCoil (fun p => ⟨p.1, p.2.1⟩) (fun _ h => h) (fun _ => Nat.le_refl _) (fun _ => rfl)
theorem o_22 (n : Nat) : Opens Tryd.prog n 22 (kL kApiContact) := o_kL (k := 4) Tryd.underlying22 (by kernel_rfl) (fun _ => rfl) o_40 n
theorem o_23 (n : Nat) : Opens Tryd.prog n 23 (kL kApiCoil) := o_kL (k := 2) Tryd.underlying23 (by kernel_rfl) (fun _ => rfl) o_124 n
def kApiRung : Cod ApiRung := ⟨cApiRung, fun x => kS.sz x.Label + ((kL kApiContact).sz x.Contacts + ((kL kApiCoil).sz x.Coils + (kS.sz x.Jump + 0))), fun x => kS.ok x.Label ∧ (kL kApiContact).ok x.Contacts ∧ (kL kApiCoil).ok x.Coils ∧ kS.ok x.Jump ∧ True⟩
theorem o_25 (n : Nat) : Opens Tryd.prog n 25 kApiRung := by
  revert n
  exact opens_any fun n => (opens_struct Tryd.underlying25 (by kernel_rfl) (opensF_cons rfl ((fun _ => o_kS Tryd.underlying9) n) (opensF_cons rfl (o_22 n) (opensF_cons rfl (o_23 n) (opensF_cons rfl ((fun _ => o_kS Tryd.underlying9) n) opensF_nil))))).map kApiRung (fun p => ⟨p.1, p.2.1, p.2.2.1, p.2.2.2.1⟩) (fun _ h => h) (fun _ => Nat.le_refl _) (fun _ => rfl)
theorem o_64 (n : Nat) : Opens Tryd.prog n 64 (kL kApiRung) := o_kL (k := 3) Tryd.underlying64 (by kernel_rfl) (fun _ => rfl) o_25 n
def kApiLadder : Cod ApiLadder := ⟨cApiLadder, fun x => (kI .i64).sz x.I + ((kI .i64).sz x.Q + ((kI .i64).sz x.M + ((kL kApiRung).sz x.Rungs + 0))), fun x => (kI .i64).ok x.I ∧ (kI .i64).ok x.Q ∧ (kI .i64).ok x.M ∧ (kL kApiRung).ok x.Rungs ∧ True⟩
theorem o_66 (n : Nat) : Opens Tryd.prog n 66 kApiLadder := by
  revert n
  exact opens_any fun n => (opens_struct Tryd.underlying66 (by kernel_rfl) (opensF_cons rfl ((fun _ => o_kI Tryd.underlying3) n) (opensF_cons rfl ((fun _ => o_kI Tryd.underlying3) n) (opensF_cons rfl ((fun _ => o_kI Tryd.underlying3) n) (opensF_cons rfl (o_64 n) opensF_nil))))).map kApiLadder (fun p => ⟨p.1, p.2.1, p.2.2.1, p.2.2.2.1⟩) (fun _ h => h) (fun _ => Nat.le_refl _) (fun _ => rfl)
theorem oa_66 : OpensA Tryd.prog 66 kApiLadder fun a => .agg (cApiLadder a) := opensA_agg Tryd.underlying66 o_66
end Go.Proofs.YtaebdeidbibfkaaDoor

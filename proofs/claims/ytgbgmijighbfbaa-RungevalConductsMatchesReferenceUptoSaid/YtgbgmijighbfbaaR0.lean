/- The arguments of the laws, as abstract values. No law is proved here. -/
import Derived.Test.YtgbgmijighbfbaaRows
import Derived.Test.YtgbgmijighbfbaaAv24
import Derived.Test.YtgbgmijighbfbaaT13
set_option linter.unusedSimpArgs false
set_option linter.unusedVariables false
namespace Go.Proofs.Ytgbgmijighbfbaa
open Go.Av

theorem own : ownKnob Try.prog.godebug = none := by kernel_rfl
theorem laid_out : laidOutB Try.prog = true := by kernel_rfl

mutual
theorem bulk_one {H : Type} : ∀ d : DataW H, 1 ≤ Rows.uptoBulk d
  | .lit (.string b) => by simp [Rows.uptoBulk]
  | .lit (.bool b) => by simp [Rows.uptoBulk]
  | .lit (.int k b) => by simp [Rows.uptoBulk]
  | .lit .nil => by simp [Rows.uptoBulk]
  | .lit (.float k b) => by simp [Rows.uptoBulk]
  | .nil => by simp [Rows.uptoBulk]
  | .ptr d => by simp [Rows.uptoBulk]
  | .slice es sp => by simp [Rows.uptoBulk]
  | .agg ps => by simp [Rows.uptoBulk]
  | .iface t d => by simp [Rows.uptoBulk]
  | .map es => by simp [Rows.uptoBulk]
  | .held h => by simp [Rows.uptoBulk]
end

theorem bulk_all {H : Type} : ∀ ds : List (DataW H), Rows.uptoBulkAll ds = (ds.map Rows.uptoBulk).sum
  | [] => rfl
  | d :: r => by simp [Rows.uptoBulkAll, bulk_all r]

theorem bulk_ok {H : Type} : BulkOk (Rows.uptoBulk (H := H)) where
  str l := by simp [Rows.uptoBulk]
  one := bulk_one
  slice es sp := by simp only [Rows.uptoBulk, bulk_all]; omega
  agg ps := by simp only [Rows.uptoBulk, bulk_all]; omega

theorem bulk_small {H : Type} {ds : List (DataW H)} (h : Rows.uptoSmall H ds = true) : (ds.map Rows.uptoBulk).sum ≤ 1048576 := by
  rw [← bulk_all]; exact of_decide_eq_true h

def i64ok (n : Int) : Prop := -9223372036854775808 ≤ n ∧ n ≤ 9223372036854775807
theorem i64ok_of {n : Int} (h : (Lit.int .i64 n).wf = true) : i64ok n := by
  simp only [Lit.wf, Bool.and_eq_true, decide_eq_true_eq] at h
  have h1 : IntKind.min .i64 = -9223372036854775808 := by decide
  have h2 : IntKind.max .i64 = 9223372036854775807 := by decide
  rw [h1, h2] at h; exact h

def codCt : Cod Ct := ⟨rowCt, fun _ => 1, fun c => i64ok c.kind ∧ i64ok c.sp ∧ i64ok c.n⟩
def codCo : Cod Co := ⟨rowCo, fun _ => 1, fun c => i64ok c.kind ∧ i64ok c.sp ∧ i64ok c.n⟩
def codAddr : Cod (Int × Int) := ⟨fun a => [.int .i64 a.1, .int .i64 a.2], fun _ => 1, fun a => i64ok a.1 ∧ i64ok a.2⟩
def codRung : Cod (Str × List Ct × List Co × Str) := ⟨fun r => [.str r.1, aCts r.2.1, aCos r.2.2.1, .str r.2.2.2], fun r => r.2.1.length + r.2.2.1.length, fun r => (∀ c ∈ r.2.1, i64ok c.kind ∧ i64ok c.sp ∧ i64ok c.n) ∧ ∀ c ∈ r.2.2.1, i64ok c.kind ∧ i64ok c.sp ∧ i64ok c.n⟩
def codBools : Cod (List Bool) := ⟨fun l => [aBools l], fun l => l.length, fun _ => True⟩
def codState : Cod (List Bool × List Bool × List Bool) := ⟨fun s => [aBools s.1, aBools s.2.1, aBools s.2.2], fun s => s.1.length + s.2.1.length + s.2.2.length, fun _ => True⟩

theorem o_addr (n : Nat) : Opens Try.prog n 50 codAddr := by
  revert n
  refine opens_any fun n => (opens_struct Try.underlying50 (by kernel_rfl) (opensF_cons rfl (opens_int Try.underlying3) (opensF_cons rfl (opens_int Try.underlying3) opensF_nil))).map codAddr (fun p => (p.1, p.2.1)) ?_ ?_ ?_
  · rintro ⟨a, b, u⟩ ⟨h1, h2, _⟩; exact ⟨i64ok_of h1, i64ok_of h2⟩
  · intro _; simp [codAddr, codProd, codInt]
  · intro _; rfl

theorem o_ct (n : Nat) : Opens Try.prog n 52 codCt := by
  revert n
  refine opens_any fun n => (opens_struct Try.underlying52 (by kernel_rfl) (opensF_cons rfl (opens_int Try.underlying3) (opensF_cons rfl (o_addr n) (opensF_cons rfl (opens_str Try.underlying9) (opensF_cons rfl (opens_str Try.underlying9) opensF_nil))))).map codCt (fun p => ⟨p.1, p.2.1.1, p.2.1.2, p.2.2.1, p.2.2.2.1⟩) ?_ ?_ ?_
  · rintro ⟨a, b, u⟩ ⟨h1, h2, _⟩; exact ⟨i64ok_of h1, h2.1, h2.2⟩
  · intro _; simp only [codCt, codProd, codInt]; omega
  · intro _; rfl

theorem o_co (n : Nat) : Opens Try.prog n 54 codCo := by
  revert n
  refine opens_any fun n => (opens_struct Try.underlying54 (by kernel_rfl) (opensF_cons rfl (opens_int Try.underlying3) (opensF_cons rfl (o_addr n) opensF_nil))).map codCo (fun p => ⟨p.1, p.2.1.1, p.2.1.2⟩) ?_ ?_ ?_
  · rintro ⟨a, b, u⟩ ⟨h1, h2, _⟩; exact ⟨i64ok_of h1, h2.1, h2.2⟩
  · intro _; simp only [codCo, codProd, codInt]; omega
  · intro _; rfl

theorem sz_ones {α : Type} (l : List α) : (l.map fun _ => 1).sum = l.length := by
  induction l with
  | nil => rfl
  | cons a l ih => simp [ih]; omega

theorem o_bools (n : Nat) : Opens Try.prog n 26 codBools := by
  revert n
  refine opens_any fun n => (opens_slice' (k := 0) Try.underlying26 (by kernel_rfl) (fun _ => rfl) (opens_bool Try.underlying4)).map codBools (fun l => l) (fun _ _ => trivial) ?_ ?_
  · intro l; simp only [codList, codBools, codBool, sz_ones]; omega
  · intro _; rfl

theorem o_cts (n : Nat) : Opens Try.prog n 22 (codList codCt) := by
  revert n
  exact opens_any fun n => opens_slice' (k := 4) Try.underlying22 (by kernel_rfl) (fun _ => rfl) (o_ct n)

theorem o_cos (n : Nat) : Opens Try.prog n 23 (codList codCo) := by
  revert n
  exact opens_any fun n => opens_slice' (k := 2) Try.underlying23 (by kernel_rfl) (fun _ => rfl) (o_co n)

theorem o_rung (n : Nat) : Opens Try.prog n 25 codRung := by
  revert n
  refine opens_any fun n => (opens_struct Try.underlying25 (by kernel_rfl) (opensF_cons rfl (opens_str Try.underlying9) (opensF_cons rfl (o_cts n) (opensF_cons rfl (o_cos n) (opensF_cons rfl (opens_str Try.underlying9) opensF_nil))))).map codRung (fun p => (p.1, p.2.1, p.2.2.1, p.2.2.2.1)) ?_ ?_ ?_
  · rintro ⟨a, b, u⟩ ⟨_, h1, h2, _⟩; exact ⟨h1, h2⟩
  · intro _; simp only [codRung, codProd, codList, codCt, codCo, sz_ones]; omega
  · intro _; rfl

theorem o_state (n : Nat) : Opens Try.prog n 36 codState := by
  revert n
  refine opens_any fun n => (opens_struct Try.underlying36 (by kernel_rfl) (opensF_cons rfl (o_bools n) (opensF_cons rfl (o_bools n) (opensF_cons rfl (o_bools n) opensF_nil)))).map codState (fun p => (p.1, p.2.1, p.2.2.1)) ?_ ?_ ?_
  · intro _ _; exact trivial
  · intro _; simp only [codState, codProd, codBools]; omega
  · intro _; rfl

theorem oa_rung : OpensA Try.prog 25 codRung fun a => aRung a.1 a.2.1 a.2.2.1 a.2.2.2 := opensA_agg Try.underlying25 o_rung
theorem oa_state : OpensA Try.prog 36 codState fun a => aState a.1 a.2.1 a.2.2 := opensA_agg Try.underlying36 o_state
theorem oa_bools : OpensA Try.prog 26 codBools aBools := opensA_cell (fun _ => rfl) (fun d hd => by rw [Try.underlying26] at hd; cases hd; trivial) o_bools
theorem oa_bool : OpensA Try.prog 4 codBool .bool := opensA_cell (fun _ => rfl) (fun d hd => by rw [Try.underlying4] at hd; cases hd; trivial) (fun _ => opens_bool Try.underlying4)
theorem oa_u8 : OpensA Try.prog 5 (codInt .u8) (.int .u8) := opensA_cell (fun _ => rfl) (fun d hd => by rw [Try.underlying5] at hd; cases hd; trivial) (fun _ => opens_int Try.underlying5)

end Go.Proofs.Ytgbgmijighbfbaa

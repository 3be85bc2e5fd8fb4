/- The arguments of the laws, as abstract values. No law is proved here. -/
import Derived.Test.YtaebdeidbibfkaaGreatDoorRows
import Derived.Test.YtaebdeidbibfkaaGreatDoorIAvM9
import Derived.Test.YtaebdeidbibfkaaGreatDoorIGTy
import Derived.Test.YtaebdeidbibfkaaGreatDoorITai
set_option linter.unusedSimpArgs false
set_option linter.unusedVariables false
set_option linter.unusedSectionVars false
namespace Go.Proofs.YtaebdeidbibfkaaGreatDoor
open Go.Av Go.G
theorem own:ownKnob Tryz.prog.godebug = none:=by kernel_rfl
theorem ZjV:laidOutB Tryz.prog = true:=by kernel_rfl
mutual
theorem Zka {H:Type}:∀ d:DataW H,1 <= Rows.uptoBulk d
 | .lit (.string b)=>by simp [Rows.uptoBulk]
 | .lit (.bool b)=>by simp [Rows.uptoBulk]
 | .lit (.int k b)=>by simp [Rows.uptoBulk]
 | .lit .nil=>by simp [Rows.uptoBulk]
 | .lit (.float k b)=>by simp [Rows.uptoBulk]
 | .nil=>by simp [Rows.uptoBulk]
 | .ptr d=>by simp [Rows.uptoBulk]
 | .slice es sp=>by simp [Rows.uptoBulk]
 | .agg ps=>by simp [Rows.uptoBulk]
 | .iface t d=>by simp [Rows.uptoBulk]
 | .map es=>by simp [Rows.uptoBulk]
 | .held h=>by simp [Rows.uptoBulk]
end
theorem Z9Y {H:Type}:∀ ds:List (DataW H),Rows.uptoBulkAll ds = (ds.map Rows.uptoBulk).sum
 | []=>rfl
 | d :: r=>by simp [Rows.uptoBulkAll,Z9Y r]
theorem Zkq {H:Type}:BulkOk (Rows.uptoBulk (H:=H)) where
 str l:=by simp [Rows.uptoBulk]
 one:=Zka
 slice es sp:=by simp only [Rows.uptoBulk,Z9Y]; omega
 agg ps:=by simp only [Rows.uptoBulk,Z9Y]; omega
theorem Zib {H:Type} {ds:List (DataW H)} (h:Rows.uptoSmall H ds = true):(ds.map Rows.uptoBulk).sum <= 1048576:=by
 rw [<- Z9Y]; exact of_decide_eq_true h
theorem ZhN {α:Type} (f:α -> Nat) {r:α}:∀ {l:List α},r ∈ l -> f r <= (l.map f).sum
 | [],hr=>by simp at hr
 | a :: l,hr=>by
   simp only [List.map_cons,List.sum_cons]
   rcases List.mem_cons.1 hr with e | e
   ·subst e; omega
   ·have:=ZhN f e; omega
theorem Zl1 {α:Type} {c:Cod α} {l:List α} {r:α} (hr:r ∈ l) {N:Nat} (h:(kL c).sz l <= N):c.sz r <= N:=by
 have h:(l.map c.sz).sum + 1 <= N:=h
 have h2:=ZhN c.sz hr
 omega
set_option maxRecDepth 100000
def kApiAddr:Cod ApiAddr:=⟨Z8p,fun x=>(kI .i64).sz x.Space + ((kI .i64).sz x.N + 0),fun x=>(kI .i64).ok x.Space /\ (kI .i64).ok x.N /\ True⟩
theorem o_52 (n:Nat):Opens Tryz.prog n 52 kApiAddr:=by
 revert n
 exact Z6P fun n=>(Z5P Tryz.underlying52 (by kernel_rfl) (Z1g rfl ((fun _=>o_kI Tryz.underlying3) n) (Z1g rfl ((fun _=>o_kI Tryz.underlying3) n) Z7i))).map kApiAddr (fun p=>⟨p.1,p.2.1⟩) (fun _ h=>h) (fun _=>Nat.le_refl _) (fun _=>rfl)
def Z5A:Cod ApiContact:=⟨Z0,fun x=>(kI .i64).sz x.Kind + (kApiAddr.sz x.A + (kS.sz x.From + (kS.sz x.To + 0))),fun x=>(kI .i64).ok x.Kind /\ kApiAddr.ok x.A /\ kS.ok x.From /\ kS.ok x.To /\ True⟩
theorem o_82 (n:Nat):Opens Tryz.prog n 82 Z5A:=by
 revert n
 exact Z6P fun n=>(Z5P Tryz.underlying82 (by kernel_rfl) (Z1g rfl ((fun _=>o_kI Tryz.underlying3) n) (Z1g rfl (o_52 n) (Z1g rfl ((fun _=>o_kS Tryz.underlying9) n) (Z1g rfl ((fun _=>o_kS Tryz.underlying9) n) Z7i))))).map Z5A (fun p=>⟨p.1,p.2.1,p.2.2.1,p.2.2.2.1⟩) (fun _ h=>h) (fun _=>Nat.le_refl _) (fun _=>rfl)
def Z7B:Cod ApiCoil:=⟨Z4,fun x=>(kI .i64).sz x.Kind + (kApiAddr.sz x.A + 0),fun x=>(kI .i64).ok x.Kind /\ kApiAddr.ok x.A /\ True⟩
theorem o_116 (n:Nat):Opens Tryz.prog n 116 Z7B:=by
 revert n
 exact Z6P fun n=>(Z5P Tryz.underlying116 (by kernel_rfl) (Z1g rfl ((fun _=>o_kI Tryz.underlying3) n) (Z1g rfl (o_52 n) Z7i))).map Z7B (fun p=>⟨p.1,p.2.1⟩) (fun _ h=>h) (fun _=>Nat.le_refl _) (fun _=>rfl)
theorem o_22 (n:Nat):Opens Tryz.prog n 22 (kL Z5A):=o_kL (k:=4) Tryz.underlying22 (by kernel_rfl) (fun _=>rfl) o_82 n
theorem o_23 (n:Nat):Opens Tryz.prog n 23 (kL Z7B):=o_kL (k:=2) Tryz.underlying23 (by kernel_rfl) (fun _=>rfl) o_116 n
def Z59:Cod ApiRung:=⟨Z7,fun x=>kS.sz x.Label + ((kL Z5A).sz x.Contacts + ((kL Z7B).sz x.Coils + (kS.sz x.Jump + 0))),fun x=>kS.ok x.Label /\ (kL Z5A).ok x.Contacts /\ (kL Z7B).ok x.Coils /\ kS.ok x.Jump /\ True⟩
theorem o_25 (n:Nat):Opens Tryz.prog n 25 Z59:=by
 revert n
 exact Z6P fun n=>(Z5P Tryz.underlying25 (by kernel_rfl) (Z1g rfl ((fun _=>o_kS Tryz.underlying9) n) (Z1g rfl (o_22 n) (Z1g rfl (o_23 n) (Z1g rfl ((fun _=>o_kS Tryz.underlying9) n) Z7i))))).map Z59 (fun p=>⟨p.1,p.2.1,p.2.2.1,p.2.2.2.1⟩) (fun _ h=>h) (fun _=>Nat.le_refl _) (fun _=>rfl)
theorem o_56 (n:Nat):Opens Tryz.prog n 56 (kL Z59):=o_kL (k:=3) Tryz.underlying56 (by kernel_rfl) (fun _=>rfl) o_25 n
def Z8e:Cod ApiLadder:=⟨Z1r,fun x=>(kI .i64).sz x.I + ((kI .i64).sz x.Q + ((kI .i64).sz x.M + ((kL Z59).sz x.Rungs + 0))),fun x=>(kI .i64).ok x.I /\ (kI .i64).ok x.Q /\ (kI .i64).ok x.M /\ (kL Z59).ok x.Rungs /\ True⟩
theorem o_58 (n:Nat):Opens Tryz.prog n 58 Z8e:=by
 revert n
 exact Z6P fun n=>(Z5P Tryz.underlying58 (by kernel_rfl) (Z1g rfl ((fun _=>o_kI Tryz.underlying3) n) (Z1g rfl ((fun _=>o_kI Tryz.underlying3) n) (Z1g rfl ((fun _=>o_kI Tryz.underlying3) n) (Z1g rfl (o_56 n) Z7i))))).map Z8e (fun p=>⟨p.1,p.2.1,p.2.2.1,p.2.2.2.1⟩) (fun _ h=>h) (fun _=>Nat.le_refl _) (fun _=>rfl)
theorem oa_58:OpensA Tryz.prog 58 Z8e fun a=>.agg (Z1r a):=Zi6 Tryz.underlying58 o_58
end Go.Proofs.YtaebdeidbibfkaaGreatDoor

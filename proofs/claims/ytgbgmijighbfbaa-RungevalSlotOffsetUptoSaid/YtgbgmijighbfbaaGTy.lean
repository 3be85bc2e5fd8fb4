/- Types of the program, in Lean. -/
import Derived.Test.YtgbgmijighbfbaaGv27
set_option linter.unusedSimpArgs false
set_option linter.unusedVariables false
set_option linter.unusedSectionVars false
namespace Go.G
open Go.Av
structure ApiAddr where
  Space : Int
  N : Int
  deriving Inhabited, DecidableEq

def cApiAddr (x : ApiAddr) : List AV := [.int .i64 x.Space, .int .i64 x.N]

structure ApiContact where
  Kind : Int
  A : ApiAddr
  From : Str
  To : Str
  deriving Inhabited, DecidableEq

def cApiContact (x : ApiContact) : List AV := [.int .i64 x.Kind, .int .i64 x.A.Space, .int .i64 x.A.N, .str x.From, .str x.To]

structure ApiCoil where
  Kind : Int
  A : ApiAddr
  deriving Inhabited, DecidableEq

def cApiCoil (x : ApiCoil) : List AV := [.int .i64 x.Kind, .int .i64 x.A.Space, .int .i64 x.A.N]

structure ApiRung where
  Label : Str
  Contacts : List ApiContact
  Coils : List ApiCoil
  Jump : Str
  deriving Inhabited, DecidableEq

def cApiRung (x : ApiRung) : List AV := [.str x.Label, aL cApiContact x.Contacts, aL cApiCoil x.Coils, .str x.Jump]

structure ApiState where
  Q : List Bool
  M : List Bool
  E : List Bool
  deriving Inhabited, DecidableEq

def cApiState (x : ApiState) : List AV := [aL cB x.Q, aL cB x.M, aL cB x.E]

theorem key_ApiAddr (a b : ApiAddr) : sameKey (pS cApiAddr a) (pS cApiAddr b) = some (a == b) := by
  obtain ⟨a_0, a_1⟩ := a
  obtain ⟨b_0, b_1⟩ := b
  simp only [pS, sameKey, cApiAddr, eqC, eqA, decide_true, cond_true, Option.bind_some, Option.map_some, Bool.and_true]
  congr 1
  rw [Bool.eq_iff_iff]
  simp

theorem findA_ApiAddr {β : Type} (d : β → List AV) (q0 : Int) (q1 : Int) (m : List (ApiAddr × β)) : findA (.agg [.int .i64 q0, .int .i64 q1]) (mAV (pS cApiAddr) d m) = some ((mGet m (⟨q0, q1⟩ : ApiAddr)).map fun v => (d v).headD .undef) := findA_gen (pS cApiAddr) d key_ApiAddr (⟨q0, q1⟩ : ApiAddr) m

theorem putA_ApiAddr {β : Type} (d : β → List AV) (q0 : Int) (q1 : Int) (v : β) (m : List (ApiAddr × β)) : putA (.agg [.int .i64 q0, .int .i64 q1]) ((d v).headD .undef) (mAV (pS cApiAddr) d m) = mAV (pS cApiAddr) d (mPut m (⟨q0, q1⟩ : ApiAddr) v) := putA_gen (pS cApiAddr) d key_ApiAddr (⟨q0, q1⟩ : ApiAddr) v m

theorem putA_ApiAddrB (q0 : Int) (q1 : Int) (v : Bool) (m : List (ApiAddr × Bool)) : putA (.agg [.int .i64 q0, .int .i64 q1]) (.bool v) (mAV (pS cApiAddr) cB m) = mAV (pS cApiAddr) cB (mPut m (⟨q0, q1⟩ : ApiAddr) v) := putA_ApiAddr cB q0 q1 v m

theorem putA_ApiAddrI (k : IntKind) (q0 : Int) (q1 : Int) (v : Int) (m : List (ApiAddr × Int)) : putA (.agg [.int .i64 q0, .int .i64 q1]) (.int k v) (mAV (pS cApiAddr) (cI k) m) = mAV (pS cApiAddr) (cI k) (mPut m (⟨q0, q1⟩ : ApiAddr) v) := putA_ApiAddr (cI k) q0 q1 v m

end Go.G

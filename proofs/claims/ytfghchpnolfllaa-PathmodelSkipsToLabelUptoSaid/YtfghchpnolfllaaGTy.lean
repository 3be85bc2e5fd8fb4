/- Types of the program, in Lean. -/
import Derived.Test.YtfghchpnolfllaaAvM9
set_option linter.unusedSimpArgs false
set_option linter.unusedVariables false
set_option linter.unusedSectionVars false
namespace Go.G
open Go.Av
structure ApiAddr where
  Space : Int
  N : Int
  deriving Inhabited, DecidableEq

def cApiAddr (x : ApiAddr) : List AV := [.int .i64 x.Space, .int .i64 x.N]

structure ApiContact where
  Kind : Int
  A : ApiAddr
  From : Str
  To : Str
  deriving Inhabited, DecidableEq

def cApiContact (x : ApiContact) : List AV := [.int .i64 x.Kind, .int .i64 x.A.Space, .int .i64 x.A.N, .str x.From, .str x.To]

structure ApiCoil where
  Kind : Int
  A : ApiAddr
  deriving Inhabited, DecidableEq

def cApiCoil (x : ApiCoil) : List AV := [.int .i64 x.Kind, .int .i64 x.A.Space, .int .i64 x.A.N]

structure ApiRung where
  Label : Str
  Contacts : List ApiContact
  Coils : List ApiCoil
  Jump : Str
  deriving Inhabited, DecidableEq

def cApiRung (x : ApiRung) : List AV := [.str x.Label, aL cApiContact x.Contacts, aL cApiCoil x.Coils, .str x.Jump]

structure ApiLadder where
  I : Int
  Q : Int
  M : Int
  Rungs : List ApiRung
  deriving Inhabited, DecidableEq

def cApiLadder (x : ApiLadder) : List AV := [.int .i64 x.I, .int .i64 x.Q, .int .i64 x.M, aL cApiRung x.Rungs]

structure ApiState where
  Q : List Bool
  M : List Bool
  E : List Bool
  deriving Inhabited, DecidableEq

def cApiState (x : ApiState) : List AV := [aL cB x.Q, aL cB x.M, aL cB x.E]

structure ApiSize where
  I : Int
  Q : Int
  M : Int
  E : Int
  deriving Inhabited, DecidableEq

def cApiSize (x : ApiSize) : List AV := [.int .i64 x.I, .int .i64 x.Q, .int .i64 x.M, .int .i64 x.E]

end Go.G

/- Types of the program, in Lean. -/
import Derived.Test.YtaebdeidbibfkaaGreatDoorWAvM9
set_option linter.unusedSimpArgs false
set_option linter.unusedVariables false
set_option linter.unusedSectionVars false
namespace Go.G
open Go.Av
structure ApiAddr where
  Space : Int
  N : Int
  deriving Inhabited, DecidableEq

def cApiAddr (x : ApiAddr) : List AV := [.int .i64 x.Space, .int .i64 x.N]

structure ApiContact where
  Kind : Int
  A : ApiAddr
  From : Str
  To : Str
  deriving Inhabited, DecidableEq

def cApiContact (x : ApiContact) : List AV := [.int .i64 x.Kind, .int .i64 x.A.Space, .int .i64 x.A.N, .str x.From, .str x.To]

structure ApiCoil where
  Kind : Int
  A : ApiAddr
  deriving Inhabited, DecidableEq

def cApiCoil (x : ApiCoil) : List AV := [.int .i64 x.Kind, .int .i64 x.A.Space, .int .i64 x.A.N]

structure ApiRung where
  Label : Str
  Contacts : List ApiContact
  Coils : List ApiCoil
  Jump : Str
  deriving Inhabited, DecidableEq

def cApiRung (x : ApiRung) : List AV := [.str x.Label, aL cApiContact x.Contacts, aL cApiCoil x.Coils, .str x.Jump]

inductive TreeTree where
  | mk (Kind : Int) (N : Int) (Kids : List TreeTree)
def TreeTree.Kind : TreeTree → Int
  | .mk Kind _ _ => Kind
def TreeTree.N : TreeTree → Int
  | .mk _ N _ => N
def TreeTree.Kids : TreeTree → List TreeTree
  | .mk _ _ Kids => Kids
instance : Inhabited TreeTree := ⟨.mk default default default⟩
mutual
def TreeTree.decE : (a b : TreeTree) → Decidable (a = b)
  | .mk Kind1 N1 Kids1, .mk Kind2 N2 Kids2 => match (inferInstance : Decidable (Kind1 = Kind2 ∧ N1 = N2)), TreeTree.decL Kids1 Kids2 with
    | isTrue h1, isTrue h2 => isTrue (by simp_all)
    | isFalse h1, _ => isFalse (fun e => h1 (by simp_all))
    | _, isFalse h2 => isFalse (fun e => h2 (by simp_all))
def TreeTree.decL : (a b : List TreeTree) → Decidable (a = b)
  | [], [] => isTrue rfl
  | [], _ :: _ => isFalse (fun e => by cases e)
  | _ :: _, [] => isFalse (fun e => by cases e)
  | a :: as, b :: bs => match TreeTree.decE a b, TreeTree.decL as bs with
    | isTrue h1, isTrue h2 => isTrue (by simp_all)
    | isFalse h1, _ => isFalse (fun e => h1 (by simp_all))
    | _, isFalse h2 => isFalse (fun e => h2 (by simp_all))
end
instance : DecidableEq TreeTree := TreeTree.decE
mutual
def cTreeTree : TreeTree → List AV
  | .mk Kind N Kids => [.int .i64 Kind, .int .i64 N, .list Kids.length (rw (cTreeTrees Kids))]
def cTreeTrees : List TreeTree → List (List AV)
  | [] => []
  | t :: ts => cTreeTree t :: cTreeTrees ts
end
theorem cTreeTrees_map : ∀ l : List TreeTree, cTreeTrees l = l.map cTreeTree
  | [] => rfl
  | t :: ts => by rw [cTreeTrees, cTreeTrees_map ts]; rfl
theorem cTreeTree_eq (x : TreeTree) : cTreeTree x = [.int .i64 x.Kind, .int .i64 x.N, aL cTreeTree x.Kids] := by
  obtain ⟨Kind, N, Kids⟩ := x
  rw [cTreeTree, cTreeTrees_map]; rfl
theorem TreeTree_Kind_mk (Kind : Int) (N : Int) (Kids : List TreeTree) : (TreeTree.mk Kind N Kids).Kind = Kind := rfl
theorem TreeTree_N_mk (Kind : Int) (N : Int) (Kids : List TreeTree) : (TreeTree.mk Kind N Kids).N = N := rfl
theorem TreeTree_Kids_mk (Kind : Int) (N : Int) (Kids : List TreeTree) : (TreeTree.mk Kind N Kids).Kids = Kids := rfl
theorem eta_TreeTree (x : TreeTree) : TreeTree.mk x.Kind x.N x.Kids = x := by cases x; rfl

inductive Ref14Tree where
  | mk (Kind : Int) (N : Int) (Kids : List Ref14Tree)
def Ref14Tree.Kind : Ref14Tree → Int
  | .mk Kind _ _ => Kind
def Ref14Tree.N : Ref14Tree → Int
  | .mk _ N _ => N
def Ref14Tree.Kids : Ref14Tree → List Ref14Tree
  | .mk _ _ Kids => Kids
instance : Inhabited Ref14Tree := ⟨.mk default default default⟩
mutual
def Ref14Tree.decE : (a b : Ref14Tree) → Decidable (a = b)
  | .mk Kind1 N1 Kids1, .mk Kind2 N2 Kids2 => match (inferInstance : Decidable (Kind1 = Kind2 ∧ N1 = N2)), Ref14Tree.decL Kids1 Kids2 with
    | isTrue h1, isTrue h2 => isTrue (by simp_all)
    | isFalse h1, _ => isFalse (fun e => h1 (by simp_all))
    | _, isFalse h2 => isFalse (fun e => h2 (by simp_all))
def Ref14Tree.decL : (a b : List Ref14Tree) → Decidable (a = b)
  | [], [] => isTrue rfl
  | [], _ :: _ => isFalse (fun e => by cases e)
  | _ :: _, [] => isFalse (fun e => by cases e)
  | a :: as, b :: bs => match Ref14Tree.decE a b, Ref14Tree.decL as bs with
    | isTrue h1, isTrue h2 => isTrue (by simp_all)
    | isFalse h1, _ => isFalse (fun e => h1 (by simp_all))
    | _, isFalse h2 => isFalse (fun e => h2 (by simp_all))
end
instance : DecidableEq Ref14Tree := Ref14Tree.decE
mutual
def cRef14Tree : Ref14Tree → List AV
  | .mk Kind N Kids => [.int .i64 Kind, .int .i64 N, .list Kids.length (rw (cRef14Trees Kids))]
def cRef14Trees : List Ref14Tree → List (List AV)
  | [] => []
  | t :: ts => cRef14Tree t :: cRef14Trees ts
end
theorem cRef14Trees_map : ∀ l : List Ref14Tree, cRef14Trees l = l.map cRef14Tree
  | [] => rfl
  | t :: ts => by rw [cRef14Trees, cRef14Trees_map ts]; rfl
theorem cRef14Tree_eq (x : Ref14Tree) : cRef14Tree x = [.int .i64 x.Kind, .int .i64 x.N, aL cRef14Tree x.Kids] := by
  obtain ⟨Kind, N, Kids⟩ := x
  rw [cRef14Tree, cRef14Trees_map]; rfl
theorem Ref14Tree_Kind_mk (Kind : Int) (N : Int) (Kids : List Ref14Tree) : (Ref14Tree.mk Kind N Kids).Kind = Kind := rfl
theorem Ref14Tree_N_mk (Kind : Int) (N : Int) (Kids : List Ref14Tree) : (Ref14Tree.mk Kind N Kids).N = N := rfl
theorem Ref14Tree_Kids_mk (Kind : Int) (N : Int) (Kids : List Ref14Tree) : (Ref14Tree.mk Kind N Kids).Kids = Kids := rfl
theorem eta_Ref14Tree (x : Ref14Tree) : Ref14Tree.mk x.Kind x.N x.Kids = x := by cases x; rfl

structure ReducePair where
  from_ : Str
  to_ : Str
  deriving Inhabited, DecidableEq

def cReducePair (x : ReducePair) : List AV := [.str x.from_, .str x.to_]

structure ReduceEdge where
  pair : ReducePair
  t_ : TreeTree
  deriving Inhabited, DecidableEq

def cReduceEdge (x : ReduceEdge) : List AV := [.str x.pair.from_, .str x.pair.to_, .int .i64 x.t_.Kind, .int .i64 x.t_.N, aL cTreeTree x.t_.Kids]

end Go.G

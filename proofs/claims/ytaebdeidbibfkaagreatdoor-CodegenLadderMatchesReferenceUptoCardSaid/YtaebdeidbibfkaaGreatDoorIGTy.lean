/- Types of the program, in Lean. -/
import Derived.Test.YtaebdeidbibfkaaGreatDoorIAvM9
set_option linter.unusedSimpArgs false
set_option linter.unusedVariables false
set_option linter.unusedSectionVars false
namespace Go.G
open Go.Av
structure ApiAddr where
 Space:Int
 N:Int
 deriving Inhabited,DecidableEq
def Z8p (x:ApiAddr):List AV:=[.int .i64 x.Space,.int .i64 x.N]
structure ApiContact where
 Kind:Int
 A:ApiAddr
 From:Str
 To:Str
 deriving Inhabited,DecidableEq
def Z0 (x:ApiContact):List AV:=[.int .i64 x.Kind,.int .i64 x.A.Space,.int .i64 x.A.N,.str x.From,.str x.To]
structure ApiCoil where
 Kind:Int
 A:ApiAddr
 deriving Inhabited,DecidableEq
def Z4 (x:ApiCoil):List AV:=[.int .i64 x.Kind,.int .i64 x.A.Space,.int .i64 x.A.N]
structure ApiRung where
 Label:Str
 Contacts:List ApiContact
 Coils:List ApiCoil
 Jump:Str
 deriving Inhabited,DecidableEq
def Z7 (x:ApiRung):List AV:=[.str x.Label,aL Z0 x.Contacts,aL Z4 x.Coils,.str x.Jump]
inductive TreeTree where
 | mk (Kind:Int) (N:Int) (Kids:List TreeTree)
def TreeTree.Kind:TreeTree -> Int
 | .mk Kind _ _=>Kind
def TreeTree.N:TreeTree -> Int
 | .mk _ N _=>N
def TreeTree.Kids:TreeTree -> List TreeTree
 | .mk _ _ Kids=>Kids
instance:Inhabited TreeTree:=⟨.mk default default default⟩
mutual
def TreeTree.decE:(a b:TreeTree) -> Decidable (a = b)
 | .mk Kind1 N1 Kids1,.mk Kind2 N2 Kids2=>match (inferInstance:Decidable (Kind1 = Kind2 /\ N1 = N2)),TreeTree.decL Kids1 Kids2 with
  | isTrue h1,isTrue h2=>isTrue (by simp_all)
  | isFalse h1,_=>isFalse (fun e=>h1 (by simp_all))
  | _,isFalse h2=>isFalse (fun e=>h2 (by simp_all))
def TreeTree.decL:(a b:List TreeTree) -> Decidable (a = b)
 | [],[]=>isTrue rfl
 | [],_ :: _=>isFalse (fun e=>by cases e)
 | _ :: _,[]=>isFalse (fun e=>by cases e)
 | a :: as,b :: bs=>match TreeTree.decE a b,TreeTree.decL as bs with
   | isTrue h1,isTrue h2=>isTrue (by simp_all)
   | isFalse h1,_=>isFalse (fun e=>h1 (by simp_all))
   | _,isFalse h2=>isFalse (fun e=>h2 (by simp_all))
end
instance:DecidableEq TreeTree:=TreeTree.decE
mutual
def Z6:TreeTree -> List AV
 | .mk Kind N Kids=>[.int .i64 Kind,.int .i64 N,.list Kids.length (rw (Z8d Kids))]
def Z8d:List TreeTree -> List (List AV)
 | []=>[]
 | t :: ts=>Z6 t :: Z8d ts
end
theorem Z9i:∀ l:List TreeTree,Z8d l = l.map Z6
 | []=>rfl
 | t :: ts=>by rw [Z8d,Z9i ts]; rfl
theorem Z8v (x:TreeTree):Z6 x = [.int .i64 x.Kind,.int .i64 x.N,aL Z6 x.Kids]:=by
 obtain ⟨Kind,N,Kids⟩:=x
 rw [Z6,Z9i]; rfl
theorem Zi (Kind:Int) (N:Int) (Kids:List TreeTree):(TreeTree.mk Kind N Kids).Kind = Kind:=rfl
theorem Z1v (Kind:Int) (N:Int) (Kids:List TreeTree):(TreeTree.mk Kind N Kids).N = N:=rfl
theorem Z1 (Kind:Int) (N:Int) (Kids:List TreeTree):(TreeTree.mk Kind N Kids).Kids = Kids:=rfl
theorem Zga (x:TreeTree):TreeTree.mk x.Kind x.N x.Kids = x:=by cases x; rfl
inductive Ref14Tree where
 | mk (Kind:Int) (N:Int) (Kids:List Ref14Tree)
def Ref14Tree.Kind:Ref14Tree -> Int
 | .mk Kind _ _=>Kind
def Ref14Tree.N:Ref14Tree -> Int
 | .mk _ N _=>N
def Ref14Tree.Kids:Ref14Tree -> List Ref14Tree
 | .mk _ _ Kids=>Kids
instance:Inhabited Ref14Tree:=⟨.mk default default default⟩
mutual
def Ref14Tree.decE:(a b:Ref14Tree) -> Decidable (a = b)
 | .mk Kind1 N1 Kids1,.mk Kind2 N2 Kids2=>match (inferInstance:Decidable (Kind1 = Kind2 /\ N1 = N2)),Ref14Tree.decL Kids1 Kids2 with
  | isTrue h1,isTrue h2=>isTrue (by simp_all)
  | isFalse h1,_=>isFalse (fun e=>h1 (by simp_all))
  | _,isFalse h2=>isFalse (fun e=>h2 (by simp_all))
def Ref14Tree.decL:(a b:List Ref14Tree) -> Decidable (a = b)
 | [],[]=>isTrue rfl
 | [],_ :: _=>isFalse (fun e=>by cases e)
 | _ :: _,[]=>isFalse (fun e=>by cases e)
 | a :: as,b :: bs=>match Ref14Tree.decE a b,Ref14Tree.decL as bs with
   | isTrue h1,isTrue h2=>isTrue (by simp_all)
   | isFalse h1,_=>isFalse (fun e=>h1 (by simp_all))
   | _,isFalse h2=>isFalse (fun e=>h2 (by simp_all))
end
instance:DecidableEq Ref14Tree:=Ref14Tree.decE
mutual
def Zc:Ref14Tree -> List AV
 | .mk Kind N Kids=>[.int .i64 Kind,.int .i64 N,.list Kids.length (rw (Z7H Kids))]
def Z7H:List Ref14Tree -> List (List AV)
 | []=>[]
 | t :: ts=>Zc t :: Z7H ts
end
theorem Z8H:∀ l:List Ref14Tree,Z7H l = l.map Zc
 | []=>rfl
 | t :: ts=>by rw [Z7H,Z8H ts]; rfl
theorem Zfx (x:Ref14Tree):Zc x = [.int .i64 x.Kind,.int .i64 x.N,aL Zc x.Kids]:=by
 obtain ⟨Kind,N,Kids⟩:=x
 rw [Zc,Z8H]; rfl
theorem Zcg (Kind:Int) (N:Int) (Kids:List Ref14Tree):(Ref14Tree.mk Kind N Kids).Kind = Kind:=rfl
theorem ZeF (Kind:Int) (N:Int) (Kids:List Ref14Tree):(Ref14Tree.mk Kind N Kids).N = N:=rfl
theorem Zc2 (Kind:Int) (N:Int) (Kids:List Ref14Tree):(Ref14Tree.mk Kind N Kids).Kids = Kids:=rfl
theorem Zfr (x:Ref14Tree):Ref14Tree.mk x.Kind x.N x.Kids = x:=by cases x; rfl
structure ApiIns where
 Op:Int
 A:ApiAddr
 N:Int
 deriving Inhabited,DecidableEq
def Zb (x:ApiIns):List AV:=[.int .i64 x.Op,.int .i64 x.A.Space,.int .i64 x.A.N,.int .i64 x.N]
structure ApiLadder where
 I:Int
 Q:Int
 M:Int
 Rungs:List ApiRung
 deriving Inhabited,DecidableEq
def Z1r (x:ApiLadder):List AV:=[.int .i64 x.I,.int .i64 x.Q,.int .i64 x.M,aL Z7 x.Rungs]
structure ApiSize where
 I:Int
 Q:Int
 M:Int
 E:Int
 deriving Inhabited,DecidableEq
def Z4l (x:ApiSize):List AV:=[.int .i64 x.I,.int .i64 x.Q,.int .i64 x.M,.int .i64 x.E]
structure ApiProgram where
 Size:ApiSize
 Code:List ApiIns
 deriving Inhabited,DecidableEq
def Z4H (x:ApiProgram):List AV:=[.int .i64 x.Size.I,.int .i64 x.Size.Q,.int .i64 x.Size.M,.int .i64 x.Size.E,aL Zb x.Code]
structure ReducePair where
 from_:Str
 to_:Str
 deriving Inhabited,DecidableEq
def Zhs (x:ReducePair):List AV:=[.str x.from_,.str x.to_]
structure ReduceEdge where
 pair:ReducePair
 t_:TreeTree
 deriving Inhabited,DecidableEq
def Zv (x:ReduceEdge):List AV:=[.str x.pair.from_,.str x.pair.to_,.int .i64 x.t_.Kind,.int .i64 x.t_.N,aL Z6 x.t_.Kids]
structure Ref15Edge where
 From:Str
 To:Str
 T:Ref14Tree
 deriving Inhabited,DecidableEq
def ZR (x:Ref15Edge):List AV:=[.str x.From,.str x.To,.int .i64 x.T.Kind,.int .i64 x.T.N,aL Zc x.T.Kids]
end Go.G

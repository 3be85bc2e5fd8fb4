/- The Av framework: abstract values and states. No law is proved here. -/
import Derived.Laws.Append
import Derived.Laws.AppendOwn
import Derived.Laws.CopyRow
import Derived.Calls
import Derived.Below
set_option linter.unusedSimpArgs false
set_option linter.unusedVariables false
set_option linter.unusedSectionVars false
namespace Go.Av

/-- Abstract values: what is only read is held by value. -/
inductive AV where
  | undef
  | bool (b : Bool)
  | int (k : IntKind) (n : Int)
  | str (s : ByteArray)
  | nilptr
  | nilmap
  | nilif
  | nilfn
  | nilsl
  | zsl
  | list (n : Nat) (row : Nat → List AV)
  | fptr (cells : List AV)
  | iface (t : TypeId) (v : AV)
  | sl (id base len : Nat)
  | hptr (id idx off : Nat)
  | mp (id : Nat)
  | clos (f : FuncId) (first captured : List AV)
  | agg (cells : List AV)
  | tup (vs : List AV)
  deriving Inhabited

/-- An object of the abstract heap. -/
inductive AObj where
  | dead
  | var (cells : List AV)
  | arr (sz : Nat) (n : Nat) (row : Nat → List AV)
  | map (es : List (AV × AV))
  | slot
  deriving Inhabited

def look : List (Nat × AV) → Nat → AV
  | [], _ => .undef
  | p :: r, n => bif Nat.beq p.1 n then p.2 else look r n

structure St where
  ch : List (Nat × AV)
  hp : List AObj
  base : Nat
  n : Nat
  cond : Prop

/-- What is known of a type's make. -/
inductive TK where
  | plain | bool | str | int (k : IntKind)
  | struct (fs : List (Nat × TypeId))
  | array (n : Nat) (e : TypeId)
  | slice (e : TypeId)
  | map (k e : TypeId)

/-- A cell's kind. -/
inductive CK where
  | b | s
  | i (k : IntKind)
  deriving DecidableEq

structure TS where
  kind : TK
  size : Nat
  bytes : Nat
  zero : List AV
  eq : List CK

def TS.isAgg (t : TS) : Bool := match t.kind with
  | .struct _ => true
  | .array _ _ => true
  | _ => false

def TK.solid : TK → Bool
  | .plain => false
  | _ => true

abbrev TT := TypeId → Option TS

def KOk (d : TypeDesc) : TK → Prop
  | .plain => (match d with | .struct _ | .array _ _ => True | _ => False) → False
  | .bool => d = .bool
  | .str => d = .string
  | .int k => d = .int k
  | .struct fs => ∃ fields, d = .struct fields ∧ fields.toList.map (fun f => (f.offset, f.type)) = fs
  | .array n e => d = .array n e
  | .slice e => d = .slice e
  | .map k e => d = .map k e

/-- One cell's value. -/
def isCell : AV → Bool
  | .undef | .agg _ | .tup _ => false
  | _ => true

/-- A cell's value without references. -/
def isFree : AV → Bool
  | .undef | .agg _ | .tup _ | .sl _ _ _ | .hptr _ _ _ | .mp _ | .clos _ _ _ => false
  | _ => true

def cellsOf : AV → List AV
  | .agg cs => cs
  | v => [v]

def ofCells (agg : Bool) (cs : List AV) : AV := bif agg then .agg cs else cs.headD .undef

/-! ### how values are represented -/

inductive RepF (F : Nat → Prop) (w : World) : AV → Value → Prop
  | bool (b) : RepF F w (.bool b) (.bool b)
  | int (k n) : RepF F w (.int k n) (.int k n)
  | str (s) : RepF F w (.str s) (.string s)
  | nilptr : RepF F w .nilptr (.pointer none)
  | nilmap : RepF F w .nilmap (.map none)
  | nilif : RepF F w .nilif .nilIface
  | nilfn : RepF F w .nilfn .nilFunc
  | nilsl : RepF F w .nilsl (.slice none 0 0)
  | zsl (a : Option Addr) : RepF F w .zsl (.slice a 0 0)
  | iface (t v x) (h : RepF F w v x) : RepF F w (.iface t v) (.iface t x)
  | empty (row) (a : Option Addr) (cap : Nat) : RepF F w (.list 0 row) (.slice a 0 cap)
  | list (n : Nat) (row : Nat → List AV) (b o cap sz : Nat) (vs : Nat → Nat → Value) (hF : F b) (hcap : n ≤ cap)
      (hsz : ∀ i, i < n → (row i).length = sz)
      (hc : ∀ (i j : Nat) (c : AV), i < n → (row i)[j]? = some c → w.cell? ⟨b, o + (i * sz + j), none⟩ = some (vs i j))
      (hf : ∀ (i j : Nat) (c : AV), i < n → (row i)[j]? = some c → isFree c = true)
      (hr : ∀ (i j : Nat) (c : AV), i < n → (row i)[j]? = some c → RepF F w c (vs i j)) : RepF F w (.list n row) (.slice (some ⟨b, o, none⟩) n cap)
  | fptr (cells : List AV) (b o : Nat) (vs : Nat → Value) (hF : F b)
      (hc : ∀ (j : Nat) (c : AV), cells[j]? = some c → w.cell? ⟨b, o + j, none⟩ = some (vs j))
      (hf : ∀ (j : Nat) (c : AV), cells[j]? = some c → isFree c = true)
      (hr : ∀ (j : Nat) (c : AV), cells[j]? = some c → RepF F w c (vs j)) : RepF F w (.fptr cells) (.pointer (some ⟨b, o, none⟩))

/-- A map's key: one cell, or the cells of a struct. -/
def RepP (F : Nat → Prop) (w : World) (v : AV) (x : Value) : Prop :=
  RepF F w v x ∨ ∃ (cs : List AV) (xs : Array Value), v = .agg cs ∧ x = .agg xs ∧ xs.size = cs.length ∧ ∀ (j : Nat) (c : AV), cs[j]? = some c → RepF F w c (xs.getD j default)

structure Env where
  F : Nat → Prop
  N : Nat
  ρ : Nat → Option Nat
  σ : Nat → Nat
  κ : Nat → Nat
  ω : Nat → Nat

inductive Rep (E : Env) (w : World) : AV → Value → Prop
  | undef (x) : Rep E w .undef x
  | fz (v x) (h : RepF E.F w v x) : Rep E w v x
  | sl (id base len av) (hi : id < E.N) (h : base + len ≤ E.κ id) (ha : base < E.κ id → av = (E.ρ id).map fun b => ⟨b, (E.ω id + base) * E.σ id, none⟩) : Rep E w (.sl id base len) (.slice av len (E.κ id - base))
  | hptr (id idx off b) (hi : id < E.N) (h : E.ρ id = some b) : Rep E w (.hptr id idx off) (.pointer (some ⟨b, (E.ω id + idx) * E.σ id + off, none⟩))
  | mp (id b) (hi : id < E.N) (h : E.ρ id = some b) : Rep E w (.mp id) (.map (some b))
  | agg (cells : List AV) (vs : List Value) (hn : vs.length = cells.length)
      (h : ∀ (i : Nat) (c : AV), cells[i]? = some c → Rep E w c (vs.getD i default)) : Rep E w (.agg cells) (.agg vs.toArray)
  | tup (cells : List AV) (vs : List Value) (hn : vs.length = cells.length)
      (h : ∀ (i : Nat) (c : AV), cells[i]? = some c → Rep E w c (vs.getD i default)) : Rep E w (.tup cells) (.tuple vs.toArray)
  | clos (f : FuncId) (a c : List AV) (xa xc : List Value) (ha : xa.length = a.length) (hc : xc.length = c.length)
      (h1 : ∀ (i : Nat) (c : AV), a[i]? = some c → Rep E w c (xa.getD i default))
      (h2 : ∀ (i : Nat) (v : AV), c[i]? = some v → Rep E w v (xc.getD i default)) : Rep E w (.clos f a c) (.func (.func f) xa.toArray xc.toArray)


/-- Types whose '==' is that of their cells: the cells' kinds. -/
def eqF (P : Program) (E : TypeId → Option (List CK)) : Nat → List Field → Option (List CK)
  | _, [] => some []
  | off, f :: fs => bif (!(f.name == "_")) && Nat.beq f.offset off then ((E f.type).bind fun l => (eqF P E (off + l.length) fs).map fun r => l ++ r) else none

def eqOne (P : Program) (t : TypeId) (c : CK) : Option (List CK) := (P.info? t).bind fun i => bif Nat.beq i.size 1 then some [c] else none

def eqT (P : Program) : Nat → TypeId → Option (List CK)
  | 0, _ => none
  | n + 1, t => match P.underlying t with
    | some .bool => eqOne P t .b
    | some .string => eqOne P t .s
    | some (.int k) => eqOne P t (.i k)
    | some (.struct fs) => bif P.stoodInHeld t then none else (eqF P (eqT P n) 0 fs.toList).bind fun l => (P.info? t).bind fun i => bif Nat.beq i.size l.length then some l else none
    | _ => none

def ckB : CK → AV → Bool
  | .b, .bool _ => true
  | .s, .str _ => true
  | .i k, .int k' _ => decide (k = k')
  | _, _ => false

def cksB : List CK → List AV → Bool
  | [], [] => true
  | k :: ks, c :: cs => ckB k c && cksB ks cs
  | _, _ => false

def eqA : AV → AV → Option Bool
  | .int k a, .int k' b => bif decide (k = k') then some (a == b) else none
  | .str a, .str b => some (decide (a = b))
  | .bool a, .bool b => some (a == b)
  | _, _ => none

def eqC : List AV → List AV → Option Bool
  | [], [] => some true
  | a :: as, b :: bs => (eqA a b).bind fun r => (eqC as bs).map fun q => r && q
  | _, _ => none

structure TOk (P : Program) (t : TypeId) (ts : TS) : Prop where
  eqk : ts.eq ≠ [] → eqT P 20 t = some ts.eq ∧ P.eqGuardType P.depth t = false
  ex : ∃ i d z, P.info? t = some i ∧ P.underlying t = some d ∧ i.size = ts.size ∧ i.bytes = ts.bytes ∧ KOk d ts.kind ∧ i.zero = some z ∧
    z.cells.size = ts.zero.length ∧ ts.zero.length = ts.size ∧ (∀ (j : Nat) (c : AV), ts.zero[j]? = some c → isFree c = true ∧ ∀ F w, RepF F w c (z.cells.getD j default) ∧ (ts.isAgg = false → RepF F w c z))

/-! ### one operation -/

def constAV0 : Value → AV
  | .bool b => .bool b
  | .int k n => .int k n
  | .string s => .str s
  | .pointer none => .nilptr
  | .map none => .nilmap
  | .slice none 0 0 => .nilsl
  | .nilIface => .nilif
  | .nilFunc => .nilfn
  | _ => .undef

def constAV : Value → AV
  | .agg cs => .agg (cs.toList.map constAV0)
  | v => constAV0 v

def St.ev (s : St) : Operand → AV
  | .tmp t => look s.ch t
  | .const v => constAV v
  | .global _ => .undef
  | .func f => .clos f [] []

def St.need (s : St) (c : Prop) : St := { s with cond := s.cond ∧ c }

def St.setd (s : St) (d : Option Nat) (v : AV) : Option St :=
  match d with
  | none => some s
  | some d => bif Nat.blt d s.n then some { s with ch := (d, v) :: s.ch } else none

def St.newBox (s : St) (d : Option Nat) (cs : List AV) : Option St :=
  match d with
  | none => none
  | some d => bif Nat.blt d s.n then some { s with ch := (d, .hptr s.hp.length 0 0) :: s.ch, hp := s.hp ++ [AObj.var cs] } else none

/-- The cells that stand from an address on. -/
def St.mem (s : St) : AV → Option (List AV × Prop)
  | .fptr cs => some (cs, True)
  | .hptr id idx off => match s.hp[id]? with
    | some (.arr _ n row) => some ((row idx).drop off, idx < n)
    | some (.var cs) => bif Nat.beq idx 0 then some (cs.drop off, True) else none
    | _ => none
  | _ => none

def opLoad (T : TT) (s : St) (d : Option Nat) (t : TypeId) (a : AV) : Option St :=
  (T t).bind fun ts => (s.mem a).bind fun m =>
    bif Nat.ble 1 ts.size && Nat.ble ts.size (m.1.take ts.size).length then (s.need m.2).setd d (ofCells ts.isAgg (m.1.take ts.size)) else none

/-- Rows out of a list of rows. -/
def rw (l : List (List AV)) : Nat → List AV := fun i => (l[i]?).getD []
/-- Rows below a number. -/
def fz (n : Nat) (row : Nat → List AV) : Nat → List AV := fun i => if i < n then row i else []
def rowLen (n : Nat) (row : Nat → List AV) (sz : Nat) : Prop := ∀ i, i < n → (row i).length = sz
def constRow (z : List AV) : Nat → List AV := fun _ => z
def dropRow (b : Nat) (row : Nat → List AV) : Nat → List AV := fun i => row (b + i)

def splice (cs : List AV) (off : Nat) (new : List AV) : List AV := cs.take off ++ new ++ cs.drop (off + new.length)

def setRow (idx off : Nat) (new : List AV) (row : Nat → List AV) : Nat → List AV := fun i => if i = idx then splice (row idx) off new else row i

def opStore (T : TT) (s : St) (t : TypeId) (a x : AV) : Option St :=
  (T t).bind fun ts => bif Nat.beq (cellsOf x).length ts.size then
    match a with
    | .hptr id idx off => match s.hp[id]? with
      | some (.arr sz n row) => bif Nat.ble (off + ts.size) sz && (cellsOf x).all isFree then
          some ({ s with hp := s.hp.set id (.arr sz n (fz n (setRow idx off (cellsOf x) row))) }.need (idx < n)) else none
      | some (.var cs) => bif Nat.beq idx 0 && Nat.ble (off + ts.size) cs.length && (cellsOf x).all isCell then some { s with hp := s.hp.set id (.var (splice cs off (cellsOf x))) } else none
      | _ => none
    | _ => none
  else none

def opFieldAddr (T : TT) (s : St) (d : Option Nat) (t : TypeId) (a : AV) (f : Nat) : Option St :=
  (T t).bind fun ts => match ts.kind with
    | .struct fs => (fs[f]?).bind fun p => (T p.2).bind fun tf => bif Nat.ble 1 tf.size then
        match a with
        | .fptr cs => s.setd d (.fptr (cs.drop p.1))
        | .hptr id idx off => s.setd d (.hptr id idx (off + p.1))
        | _ => none
      else none
    | _ => none

def partA (ts : TS) (cs : List AV) (off : Nat) : Option AV :=
  bif Nat.ble (off + ts.size) cs.length then some (ofCells ts.isAgg ((cs.drop off).take ts.size)) else none

def opField (T : TT) (s : St) (d : Option Nat) (t : TypeId) (x : AV) (f : Nat) : Option St :=
  (T t).bind fun ts => match ts.kind, x with
    | .struct fs, .agg cs => (fs[f]?).bind fun p => (T p.2).bind fun tf => bif (tf.isAgg || Nat.beq tf.size 1) then (partA tf cs p.1).bind (s.setd d) else none
    | _, _ => none

def opIndexAddr (T : TT) (s : St) (d : Option Nat) (t : TypeId) (x i : AV) : Option St :=
  (T t).bind fun ts => match ts.kind, i with
    | .slice e, .int _ k => (T e).bind fun te => match x with
      | .list n row => (s.need ((0 ≤ k ∧ k < (n : Int)) ∧ (row k.toNat).length = te.size)).setd d (.fptr (row k.toNat))
      | .sl id b n => match s.hp[id]? with
        | some (.arr sz _ _) => bif Nat.beq sz te.size then (s.need (0 ≤ k ∧ k < (n : Int))).setd d (.hptr id (b + k.toNat) 0) else none
        | _ => none
      | _ => none
    | .array n e, .int _ (.ofNat k) => (T e).bind fun te => bif Nat.blt k n then
        match x with
        | .hptr id idx off => s.setd d (.hptr id idx (off + k * te.size))
        | .fptr cs => s.setd d (.fptr (cs.drop (k * te.size)))
        | _ => none
      else none
    | _, _ => none

def opIndex (T : TT) (s : St) (d : Option Nat) (t : TypeId) (x i : AV) : Option St :=
  (T t).bind fun ts => match ts.kind, x, i with
    | .array n e, .agg cs, .int _ k => (T e).bind fun te => bif te.isAgg then
          (s.need ((0 ≤ k ∧ k < (n : Int)) ∧ n * te.size ≤ cs.length)).setd d (.agg ((cs.drop (k.toNat * te.size)).take te.size))
        else bif Nat.beq te.size 1 then (s.need ((0 ≤ k ∧ k < (n : Int)) ∧ n ≤ cs.length)).setd d (cs.getD k.toNat .undef) else none
    | .str, .str b, .int _ k => (s.need (0 ≤ k ∧ k < (b.size : Int))).setd d (.int .u8 ((b.data.toList.getD k.toNat 0).toNat : Int))
    | _, _, _ => none

def opLen (T : TT) (s : St) (d : Option Nat) (t : TypeId) (x : AV) : Option St :=
  (T t).bind fun ts => match ts.kind, x with
    | .slice _, .list n _ => s.setd d (.int .i64 (n : Int))
    | .slice _, .sl _ _ n => s.setd d (.int .i64 (n : Int))
    | .slice _, .nilsl => s.setd d (.int .i64 0)
    | .slice _, .zsl => s.setd d (.int .i64 0)
    | .str, .str b => s.setd d (.int .i64 (b.size : Int))
    | .array n _, _ => s.setd d (.int .i64 (n : Int))
    | .map _ _, .nilmap => s.setd d (.int .i64 0)
    | .map _ _, .mp id => match s.hp[id]? with
      | some (.map es) => s.setd d (.int .i64 (es.length : Int))
      | _ => none
    | _, _ => none

/-- A slice's rows, to be read. -/
def St.rows (s : St) : AV → Option (Nat × (Nat → List AV) × Prop)
  | .list n row => some (n, row, True)
  | .nilsl => some (0, rw [], True)
  | .zsl => some (0, rw [], True)
  | .sl id b n => match s.hp[id]? with
    | some (.arr _ m row) => some (n, fz n (dropRow b row), b + n ≤ m)
    | _ => none
  | _ => none

def appendRow (n : Nat) (row row' : Nat → List AV) : Nat → List AV := fun i => if i < n then row i else row' (i - n)

def opAppend (T : TT) (own : Nat → Bool) (s : St) (d : Option Nat) (t t' : TypeId) (x y : AV) : Option St :=
  (T t).bind fun ts => match ts.kind with
    | .slice e => (T e).bind fun te => bif Nat.ble 1 te.size && Nat.beq t t' then (s.rows y).bind fun src =>
        match x with
        | .nilsl => bif own (d.getD 0) then ({ s with hp := s.hp ++ [AObj.arr te.size src.1 (fz src.1 src.2.1)] }.need (src.2.2 ∧ src.1 * te.bytes ≤ 140737488355328 ∧ (src.1 : Int) ≤ 9223372036854775807 ∧ rowLen src.1 src.2.1 te.size)).setd d (.sl s.hp.length 0 src.1) else (s.need (src.2.2 ∧ src.1 * te.bytes ≤ 140737488355328 ∧ (src.1 : Int) ≤ 9223372036854775807 ∧ rowLen src.1 src.2.1 te.size)).setd d (.list src.1 (fz src.1 src.2.1))
        | .zsl => bif own (d.getD 0) then ({ s with hp := s.hp ++ [AObj.arr te.size src.1 (fz src.1 src.2.1)] }.need (src.2.2 ∧ src.1 * te.bytes ≤ 140737488355328 ∧ (src.1 : Int) ≤ 9223372036854775807 ∧ rowLen src.1 src.2.1 te.size)).setd d (.sl s.hp.length 0 src.1) else (s.need (src.2.2 ∧ src.1 * te.bytes ≤ 140737488355328 ∧ (src.1 : Int) ≤ 9223372036854775807 ∧ rowLen src.1 src.2.1 te.size)).setd d (.list src.1 (fz src.1 src.2.1))
        | .sl id b n => match s.hp[id]? with
          | some (.arr sz m row) => bif Nat.beq sz te.size && Nat.ble s.base id then
              ({ s with hp := s.hp.set id .dead ++ [AObj.arr sz (n + src.1) (fz (n + src.1) (appendRow n (dropRow b row) src.2.1))] }.need
                (src.2.2 ∧ b + n = m ∧ (n + src.1) * te.bytes ≤ 140737488355328 ∧ ((n + src.1 : Nat) : Int) ≤ 9223372036854775807 ∧ rowLen src.1 src.2.1 te.size)).setd d (.sl s.hp.length 0 (n + src.1))
              else none
          | _ => none
        | _ => none
      else none
    | _ => none

def loA (lo : Option AV) : Option Int := match lo with
  | none => some 0
  | some (.int _ k) => some k
  | _ => none

def hiA (hi : Option AV) (n : Nat) : Option Int := match hi with
  | none => some n
  | some (.int _ k) => some k
  | _ => none

def lenA : AV → Option Nat
  | .list n _ => some n
  | .sl _ _ n => some n
  | .str b => some b.size
  | .nilsl => some 0
  | _ => none

def opSlice (T : TT) (s : St) (d : Option Nat) (t : TypeId) (x : AV) (lo hi : Option AV) : Option St :=
  (T t).bind fun ts => (lenA x).bind fun n => (loA lo).bind fun l => (hiA hi n).bind fun h => match ts.kind, x with
      | .slice e, .list _ row => (T e).bind fun te => (s.need ((0 ≤ l ∧ l ≤ h ∧ h ≤ (n : Int)) ∧ rowLen n row te.size)).setd d (.list (h.toNat - l.toNat) (fz (h.toNat - l.toNat) (dropRow l.toNat row)))
      | .slice e, .sl id b _ => (T e).bind fun te => match s.hp[id]? with
        | some (.arr sz _ _) => bif Nat.beq sz te.size then (s.need (0 ≤ l ∧ l ≤ h ∧ h ≤ (n : Int))).setd d (.sl id (b + l.toNat) (h.toNat - l.toNat)) else none
        | _ => none
      | .slice e, .nilsl => (T e).bind fun _ => (s.need (l = 0 ∧ h = 0)).setd d .nilsl
      | .str, .str b => (s.need (0 ≤ l ∧ l ≤ h ∧ h ≤ (n : Int))).setd d (.str (b.extract l.toNat h.toNat))
      | _, _ => none

def intBin (op : BinOp) (k : IntKind) (a b : Int) : Option (AV × Prop) :=
  match op with
  | .add => some (.int k (k.wrap (a + b)), True)
  | .sub => some (.int k (k.wrap (a - b)), True)
  | .mul => some (.int k (k.wrap (a * b)), True)
  | .quo => some (.int k (k.wrap (a.tdiv b)), b ≠ 0)
  | .rem => some (.int k (a.tmod b), b ≠ 0)
  | .eql => some (.bool (a == b), True)
  | .neq => some (.bool (a != b), True)
  | .lss => some (.bool (decide (a < b)), True)
  | .leq => some (.bool (decide (a ≤ b)), True)
  | .gtr => some (.bool (decide (a > b)), True)
  | .geq => some (.bool (decide (a ≥ b)), True)
  | _ => none

def strBin (op : BinOp) (a b : ByteArray) : Option (AV × Prop) :=
  match op with
  | .add => some (.str (a ++ b), ((a.size + b.size : Nat) : Int) ≤ 9223372036854775807)
  | .eql => some (.bool (decide (a = b)), True)
  | .neq => some (.bool (!decide (a = b)), True)
  | .lss => some (.bool (Op.bytesLess a.toList b.toList), True)
  | _ => none

def opBin (T : TT) (s : St) (d : Option Nat) (op : BinOp) (t : TypeId) (x y : AV) : Option St :=
  match x, y with
  | .int k a, .int k' b => bif decide (k = k') then (intBin op k a b).bind fun r => (s.need r.2).setd d r.1 else none
  | .str a, .str b => (strBin op a b).bind fun r => (s.need r.2).setd d r.1
  | .bool a, .bool b => (T t).bind fun ts => match ts.kind, op with
    | .bool, .eql => s.setd d (.bool (a == b))
    | .bool, .neq => s.setd d (.bool (!(a == b)))
    | _, _ => none
  | .agg as, .agg bs => (T t).bind fun ts => bif ts.isAgg && (!ts.eq.isEmpty) && cksB ts.eq as && cksB ts.eq bs then (eqC as bs).bind fun r => match op with
    | .eql => s.setd d (.bool r)
    | .neq => s.setd d (.bool (!r))
    | _ => none
    else none
  | _, _ => none

def opUn (s : St) (d : Option Nat) (op : UnOp) (x : AV) : Option St :=
  match op, x with
  | .not, .bool b => s.setd d (.bool (!b))
  | .neg, .int k n => s.setd d (.int k (k.wrap (0 - n)))
  | _, _ => none

def opConvert (T : TT) (s : St) (d : Option Nat) (src dst : TypeId) (x : AV) : Option St :=
  (T src).bind fun _ => (T dst).bind fun td => match td.kind, x with
    | .int k, .int _ n => s.setd d (.int k (k.wrap n))
    | .str, .str b => s.setd d (.str b)
    | _, _ => none

def opExtract (s : St) (d : Option Nat) (x : AV) (i : Nat) : Option St :=
  match x with
  | .tup vs => (vs[i]?).bind (s.setd d)
  | _ => none

/-- Parts laid into cells. -/
def fillA (place : Nat → Option (Nat × Nat)) (cells : List AV) : List (Nat × AV) → Option (List AV)
  | [] => some cells
  | (i, v) :: rest => (place i).bind fun p =>
    bif Nat.beq (cellsOf v).length p.2 && Nat.ble (p.1 + p.2) cells.length && (cellsOf v).all (fun c => isCell c) then fillA place (splice cells p.1 (cellsOf v)) rest else none

def placeOf (T : TT) (fs : List (Nat × TypeId)) (i : Nat) : Option (Nat × Nat) := (fs[i]?).bind fun p => (T p.2).map fun tf => (p.1, tf.size)

def opBuild (T : TT) (s : St) (d : Option Nat) (t : TypeId) (parts : List (Nat × AV)) : Option St :=
  (T t).bind fun ts => match ts.kind with
    | .struct fs => bif fs.all (fun p => (T p.2).isSome) then (fillA (placeOf T fs) ts.zero parts).bind fun cs => s.setd d (.agg cs) else none
    | .array _ e => (T e).bind fun te => (fillA (fun i => some (i * te.size, te.size)) ts.zero parts).bind fun cs => s.setd d (.agg cs)
    | _ => none

/-- Rows of a list. -/
def rowsOf (sz : Nat) (cs : List AV) : Nat → List AV := fun i => (cs.drop (i * sz)).take sz

def opBuildSlice (T : TT) (own : Nat → Bool) (s : St) (d : Option Nat) (t : TypeId) (len : Nat) (parts : List (Nat × AV)) : Option St :=
  (T t).bind fun ts => match ts.kind with
    | .slice e => (T e).bind fun te => bif Nat.ble (len * te.size) 16777216 && Nat.ble 1 te.size then
        (fillA (fun i => some (i * te.size, te.size)) ((List.replicate len te.zero).flatten) parts).bind fun cs =>
          bif cs.all isFree then
            bif Nat.beq len 0 then s.setd d .zsl
            else bif own (d.getD 0) then { s with hp := s.hp ++ [AObj.arr te.size len (fz len (rowsOf te.size cs))] }.setd d (.sl s.hp.length 0 len)
            else s.setd d (.list len (fz len (rowsOf te.size cs)))
          else none
      else none
    | _ => none

def opMakeSlice (T : TT) (s : St) (d : Option Nat) (t : TypeId) (l c : AV) : Option St :=
  (T t).bind fun ts => match ts.kind, l, c with
    | .slice e, .int .i64 n, .int .i64 m => (T e).bind fun te => bif Nat.ble 1 te.size then
        ({ s with hp := s.hp ++ [AObj.arr te.size n.toNat (fz n.toNat (constRow te.zero))] }.need (0 ≤ n ∧ n ≤ m ∧ m * (te.bytes : Int) ≤ 140737488355328 ∧ m ≤ 9223372036854775807)).setd d (.sl s.hp.length 0 n.toNat)
      else none
    | _, _, _ => none

def copyRow (b n : Nat) (row row' : Nat → List AV) : Nat → List AV := fun i => if b ≤ i ∧ i < b + n then row' (i - b) else row i

def opCopy (T : TT) (s : St) (d : Option Nat) (t : TypeId) (x y : AV) : Option St :=
  (T t).bind fun ts => match ts.kind with
    | .slice e => (T e).bind fun te => (s.rows y).bind fun src => match x with
      | .sl id b n => match s.hp[id]? with
        | some (.arr sz m row) => bif Nat.beq sz te.size && Nat.ble 1 te.size then
            ({ s with hp := s.hp.set id (.arr sz m (fz m (copyRow b (Nat.min src.1 n) row src.2.1))) }.need (src.2.2 ∧ b + n ≤ m ∧ rowLen src.1 src.2.1 te.size)).setd d (.int .i64 (Nat.min src.1 n : Nat))
          else none
        | _ => none
      | _ => none
    | _ => none

/-- The entry of a key, by the keys' own '=='. -/
def sameKey : AV → AV → Option Bool
  | .int k a, .int k' b => bif decide (k = k') then some (a == b) else none
  | .str a, .str b => some (a == b)
  | .agg as, .agg bs => eqC as bs
  | _, _ => none

def findA (k : AV) : List (AV × AV) → Option (Option AV)
  | [] => some none
  | e :: es => match sameKey k e.1 with
    | some b => bif b then some (some e.2) else findA k es
    | none => none

def putA (k v : AV) : List (AV × AV) → List (AV × AV)
  | [] => [(k, v)]
  | e :: es => match sameKey k e.1 with
    | some b => bif b then (k, v) :: es else e :: putA k v es
    | none => e :: es

def opMakeMap (T : TT) (s : St) (d : Option Nat) (t : TypeId) (r : Option AV) : Option St :=
  match r with
  | none => ({ s with hp := s.hp ++ [AObj.map []] }).setd d (.mp s.hp.length)
  | some (.int _ _) => (T t).bind fun ts => match ts.kind with
    | .map _ _ => ({ s with hp := s.hp ++ [AObj.map []] }).setd d (.mp s.hp.length)
    | _ => none
  | _ => none

def keyOk (tk : TS) (v : AV) : Bool := match tk.kind, v with
  | .int k, .int k' _ => decide (k = k')
  | .str, .str _ => true
  | .struct _, .agg cs => (!tk.eq.isEmpty) && cksB tk.eq cs
  | _, _ => false

def opLookup (T : TT) (s : St) (d : Option Nat) (t : TypeId) (x k : AV) (ok : Bool) : Option St :=
  (T t).bind fun ts => match ts.kind with
    | .map kt et => (T kt).bind fun tk => (T et).bind fun te =>
      let es : Option (List (AV × AV)) := match x with
        | .nilmap => some []
        | .mp id => match s.hp[id]? with | some (.map es) => some es | _ => none
        | _ => none
      es.bind fun es => bif keyOk tk k && (bif te.isAgg then false else Nat.beq te.size 1) then
        (findA k es).bind fun r =>
          let v := r.getD (te.zero.headD .undef)
          s.setd d (bif ok then .tup [v, .bool r.isSome] else v)
      else none
    | _ => none

def opMapUpdate (T : TT) (s : St) (t : TypeId) (m k v : AV) : Option St :=
  (T t).bind fun ts => match ts.kind, m with
    | .map kt _, .mp id => (T kt).bind fun tk => match s.hp[id]? with
      | some (.map es) => bif keyOk tk k && isFree v then (findA k es).bind fun _ => some { s with hp := s.hp.set id (.map (putA k v es)) } else none
      | _ => none
    | _, _ => none

def opMakeInterface (T : TT) (s : St) (d : Option Nat) (t : TypeId) (x : AV) : Option St :=
  (T t).bind fun ts => bif isFree x && ts.kind.solid then s.setd d (.iface t x) else none

def opf (T : TT) (own : Nat → Bool) (o : Oper) (s : St) : Option St :=
  match o.op with
  | .move x => s.setd o.dst (s.ev x)
  | .assign x => s.setd o.dst (s.ev x)
  | .pick c a b => match s.ev c with
    | .bool c => s.setd o.dst (bif c then s.ev a else s.ev b)
    | _ => none
  | .alloc t => (T t).bind fun ts => s.newBox o.dst ts.zero
  | .box _ x => bif (cellsOf (s.ev x)).all isCell then s.newBox o.dst (cellsOf (s.ev x)) else none
  | .load t a => opLoad T s o.dst t (s.ev a)
  | .store t a x => match o.dst with | none => opStore T s t (s.ev a) (s.ev x) | some _ => none
  | .fieldAddr t x f => opFieldAddr T s o.dst t (s.ev x) f
  | .field t x f => opField T s o.dst t (s.ev x) f
  | .indexAddr t x i => opIndexAddr T s o.dst t (s.ev x) (s.ev i)
  | .index t x i => opIndex T s o.dst t (s.ev x) (s.ev i)
  | .build t ps => opBuild T s o.dst t (ps.toList.map fun p => (p.1, s.ev p.2))
  | .buildSlice t n ps => opBuildSlice T own s o.dst t n (ps.toList.map fun p => (p.1, s.ev p.2))
  | .makeSlice t l c => opMakeSlice T s o.dst t (s.ev l) (s.ev c)
  | .slice t x lo hi none => opSlice T s o.dst t (s.ev x) (lo.map s.ev) (hi.map s.ev)
  | .binOp op t x y _ => opBin T s o.dst op t (s.ev x) (s.ev y)
  | .unOp op _ x => opUn s o.dst op (s.ev x)
  | .convert src dst x => opConvert T s o.dst src dst (s.ev x)
  | .extract x i => opExtract s o.dst (s.ev x) i
  | .makeInterface t x => opMakeInterface T s o.dst t (s.ev x)
  | .makeMap t r => opMakeMap T s o.dst t (r.map s.ev)
  | .lookup t x k ok => opLookup T s o.dst t (s.ev x) (s.ev k) ok
  | .mapUpdate t m k v => match o.dst with | none => opMapUpdate T s t (s.ev m) (s.ev k) (s.ev v) | some _ => none
  | .insert t m k v => match o.dst with | none => opMapUpdate T s t (s.ev m) (s.ev k) (s.ev v) | some _ => none
  | .call c => match c.callee, c.args.toList, c.argTypes.toList with
    | .builtin .len, [x], [t] => opLen T s o.dst t (s.ev x)
    | .builtin .append, [x, y], [t, t'] => opAppend T own s o.dst t t' (s.ev x) (s.ev y)
    | .builtin .copy, [x, y], [t, _] => opCopy T s o.dst t (s.ev x) (s.ev y)
    | _, _, _ => none
  | _ => none

end Go.Av

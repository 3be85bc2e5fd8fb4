/- The Av framework: abstract values and states. No law is proved here. -/
import Derived.Laws.Append
import Derived.Laws.AppendOwn
import Derived.Laws.CopyRow
import Derived.Calls
import Derived.Below
import Derived.Laws.BytesString
set_option linter.unusedSimpArgs false
set_option linter.unusedVariables false
set_option linter.unusedSectionVars false
namespace Go.Av

/-- Abstract values: what is only read is held by value. -/
inductive AV where
  | undef
  | bool (b : Bool)
  | int (k : IntKind) (n : Int)
  | str (s : ByteArray)
  | nilptr
  | nilmap
  | nilif
  | nilfn
  | yld (l : Nat)
  | nilsl
  | zsl
  | list (n : Nat) (row : Nat → List AV)
  | fptr (cells : List AV)
  | iface (t : TypeId) (v : AV)
  | sl (id base len : Nat)
  | hptr (id idx off : Nat)
  | mp (id : Nat)
  | clos (f : FuncId) (first captured : List AV)
  | agg (cells : List AV)
  | tup (vs : List AV)
  deriving Inhabited

/-- An object of the abstract heap. -/
inductive AObj where
  | dead
  | var (cells : List AV)
  | arr (sz : Nat) (n : Nat) (row : Nat → List AV)
  | map (es : List (AV × AV))
  | slot
  | siter (s : ByteArray) (pos : Nat)
  | miter (cur : Option (AV × AV)) (left : List (AV × AV))
  | raw (o : Obj)
  deriving Inhabited

def look : List (Nat × AV) → Nat → AV
  | [], _ => .undef
  | p :: r, n => bif Nat.beq p.1 n then p.2 else look r n

structure St where
  ch : List (Nat × AV)
  hp : List AObj
  base : Nat
  n : Nat
  cond : Prop
  gl : List (Nat × AV)

/-- What is known of a type's make. -/
inductive TK where
  | plain | bool | str | int (k : IntKind)
  | struct (fs : List (Nat × TypeId))
  | array (n : Nat) (e : TypeId)
  | slice (e : TypeId)
  | map (k e : TypeId)

/-- A cell's kind. -/
inductive CK where
  | b | s
  | i (k : IntKind)
  deriving DecidableEq

structure TS where
  kind : TK
  size : Nat
  bytes : Nat
  zero : List AV
  eq : List CK

def TS.isAgg (t : TS) : Bool := match t.kind with
  | .struct _ => true
  | .array _ _ => true
  | _ => false

def TK.solid : TK → Bool
  | .plain => false
  | _ => true

abbrev TT := TypeId → Option TS

def KOk (d : TypeDesc) : TK → Prop
  | .plain => (match d with | .struct _ | .array _ _ => True | _ => False) → False
  | .bool => d = .bool
  | .str => d = .string
  | .int k => d = .int k
  | .struct fs => ∃ fields, d = .struct fields ∧ fields.toList.map (fun f => (f.offset, f.type)) = fs
  | .array n e => d = .array n e
  | .slice e => d = .slice e
  | .map k e => d = .map k e

/-- One cell's value. -/
def isCell : AV → Bool
  | .undef | .agg _ | .tup _ => false
  | _ => true

/-- A cell's value without references. -/
def isFree : AV → Bool
  | .undef | .agg _ | .tup _ | .sl _ _ _ | .hptr _ _ _ | .mp _ | .clos _ _ _ => false
  | _ => true

def cellsOf : AV → List AV
  | .agg cs => cs
  | v => [v]

def ofCells (agg : Bool) (cs : List AV) : AV := bif agg then .agg cs else cs.headD .undef

/-! ### how values are represented -/

inductive RepF (F : Nat → Prop) (w : World) : AV → Value → Prop
  | bool (b) : RepF F w (.bool b) (.bool b)
  | int (k n) : RepF F w (.int k n) (.int k n)
  | str (s) : RepF F w (.str s) (.string s)
  | nilptr : RepF F w .nilptr (.pointer none)
  | nilmap : RepF F w .nilmap (.map none)
  | nilif : RepF F w .nilif .nilIface
  | nilfn : RepF F w .nilfn .nilFunc
  | yld (l) : RepF F w (.yld l) (.func (.yield l) #[] #[])
  | nilsl : RepF F w .nilsl (.slice none 0 0)
  | zsl (a : Option Addr) : RepF F w .zsl (.slice a 0 0)
  | iface (t v x) (h : RepF F w v x) : RepF F w (.iface t v) (.iface t x)
  | empty (row) (a : Option Addr) (cap : Nat) : RepF F w (.list 0 row) (.slice a 0 cap)
  | list (n : Nat) (row : Nat → List AV) (b o cap sz : Nat) (vs : Nat → Nat → Value) (hF : F b) (hcap : n ≤ cap)
      (hsz : ∀ i, i < n → (row i).length = sz)
      (hc : ∀ (i j : Nat) (c : AV), i < n → (row i)[j]? = some c → w.cell? ⟨b, o + (i * sz + j), none⟩ = some (vs i j))
      (hf : ∀ (i j : Nat) (c : AV), i < n → (row i)[j]? = some c → isFree c = true)
      (hr : ∀ (i j : Nat) (c : AV), i < n → (row i)[j]? = some c → RepF F w c (vs i j)) : RepF F w (.list n row) (.slice (some ⟨b, o, none⟩) n cap)
  | fptr (cells : List AV) (b o : Nat) (vs : Nat → Value) (hF : F b)
      (hc : ∀ (j : Nat) (c : AV), cells[j]? = some c → w.cell? ⟨b, o + j, none⟩ = some (vs j))
      (hf : ∀ (j : Nat) (c : AV), cells[j]? = some c → isFree c = true)
      (hr : ∀ (j : Nat) (c : AV), cells[j]? = some c → RepF F w c (vs j)) : RepF F w (.fptr cells) (.pointer (some ⟨b, o, none⟩))

/-- A map's key: one cell, or the cells of a struct. -/
def RepP (F : Nat → Prop) (w : World) (v : AV) (x : Value) : Prop :=
  RepF F w v x ∨ ∃ (cs : List AV) (xs : Array Value), v = .agg cs ∧ x = .agg xs ∧ xs.size = cs.length ∧ ∀ (j : Nat) (c : AV), cs[j]? = some c → RepF F w c (xs.getD j default)

structure Env where
  F : Nat → Prop
  N : Nat
  ρ : Nat → Option Nat
  σ : Nat → Nat
  κ : Nat → Nat
  ω : Nat → Nat

inductive Rep (E : Env) (w : World) : AV → Value → Prop
  | undef (x) : Rep E w .undef x
  | fz (v x) (h : RepF E.F w v x) : Rep E w v x
  | sl (id base len av) (hi : id < E.N) (h : base + len ≤ E.κ id) (ha : base < E.κ id → av = (E.ρ id).map fun b => ⟨b, (E.ω id + base) * E.σ id, none⟩) : Rep E w (.sl id base len) (.slice av len (E.κ id - base))
  | hptr (id idx off b) (hi : id < E.N) (h : E.ρ id = some b) : Rep E w (.hptr id idx off) (.pointer (some ⟨b, (E.ω id + idx) * E.σ id + off, none⟩))
  | mp (id b) (hi : id < E.N) (h : E.ρ id = some b) : Rep E w (.mp id) (.map (some b))
  | agg (cells : List AV) (vs : List Value) (hn : vs.length = cells.length)
      (h : ∀ (i : Nat) (c : AV), cells[i]? = some c → Rep E w c (vs.getD i default)) : Rep E w (.agg cells) (.agg vs.toArray)
  | tup (cells : List AV) (vs : List Value) (hn : vs.length = cells.length)
      (h : ∀ (i : Nat) (c : AV), cells[i]? = some c → Rep E w c (vs.getD i default)) : Rep E w (.tup cells) (.tuple vs.toArray)
  | clos (f : FuncId) (a c : List AV) (xa xc : List Value) (ha : xa.length = a.length) (hc : xc.length = c.length)
      (h1 : ∀ (i : Nat) (c : AV), a[i]? = some c → Rep E w c (xa.getD i default))
      (h2 : ∀ (i : Nat) (v : AV), c[i]? = some v → Rep E w v (xc.getD i default)) : Rep E w (.clos f a c) (.func (.func f) xa.toArray xc.toArray)


/-- Types whose '==' is that of their cells: the cells' kinds. -/
def eqF (P : Program) (E : TypeId → Option (List CK)) : Nat → List Field → Option (List CK)
  | _, [] => some []
  | off, f :: fs => bif (!(f.name == "_")) && Nat.beq f.offset off then ((E f.type).bind fun l => (eqF P E (off + l.length) fs).map fun r => l ++ r) else none

def eqOne (P : Program) (t : TypeId) (c : CK) : Option (List CK) := (P.info? t).bind fun i => bif Nat.beq i.size 1 then some [c] else none

def eqT (P : Program) : Nat → TypeId → Option (List CK)
  | 0, _ => none
  | n + 1, t => match P.underlying t with
    | some .bool => eqOne P t .b
    | some .string => eqOne P t .s
    | some (.int k) => eqOne P t (.i k)
    | some (.struct fs) => bif P.stoodInHeld t then none else (eqF P (eqT P n) 0 fs.toList).bind fun l => (P.info? t).bind fun i => bif Nat.beq i.size l.length then some l else none
    | _ => none

def ckB : CK → AV → Bool
  | .b, .bool _ => true
  | .s, .str _ => true
  | .i k, .int k' _ => decide (k = k')
  | _, _ => false

def cksB : List CK → List AV → Bool
  | [], [] => true
  | k :: ks, c :: cs => ckB k c && cksB ks cs
  | _, _ => false

def eqA : AV → AV → Option Bool
  | .int k a, .int k' b => bif decide (k = k') then some (a == b) else none
  | .str a, .str b => some (decide (a = b))
  | .bool a, .bool b => some (a == b)
  | _, _ => none

def eqC : List AV → List AV → Option Bool
  | [], [] => some true
  | a :: as, b :: bs => (eqA a b).bind fun r => (eqC as bs).map fun q => r && q
  | _, _ => none

structure TOk (P : Program) (t : TypeId) (ts : TS) : Prop where
  eqk : ts.eq ≠ [] → eqT P 20 t = some ts.eq ∧ P.eqGuardType P.depth t = false
  ex : ∃ i d z, P.info? t = some i ∧ P.underlying t = some d ∧ i.size = ts.size ∧ i.bytes = ts.bytes ∧ KOk d ts.kind ∧ i.zero = some z ∧
    z.cells.size = ts.zero.length ∧ ts.zero.length = ts.size ∧ (∀ (j : Nat) (c : AV), ts.zero[j]? = some c → isFree c = true ∧ ∀ F w, RepF F w c (z.cells.getD j default) ∧ (ts.isAgg = false → RepF F w c z))

/-! ### one operation -/

def constAV0 : Value → AV
  | .bool b => .bool b
  | .int k n => .int k n
  | .string s => .str s
  | .pointer none => .nilptr
  | .map none => .nilmap
  | .slice none 0 0 => .nilsl
  | .nilIface => .nilif
  | .nilFunc => .nilfn
  | _ => .undef

def constAV : Value → AV
  | .agg cs => .agg (cs.toList.map constAV0)
  | v => constAV0 v

def St.ev (s : St) : Operand → AV
  | .tmp t => look s.ch t
  | .const v => constAV v
  | .global g => look s.gl g
  | .func f => .clos f [] []

def St.need (s : St) (c : Prop) : St := { s with cond := s.cond ∧ c }

def St.setd (s : St) (d : Option Nat) (v : AV) : Option St :=
  match d with
  | none => some s
  | some d => bif Nat.blt d s.n then some { s with ch := (d, v) :: s.ch } else none

def St.newBox (s : St) (d : Option Nat) (cs : List AV) : Option St :=
  match d with
  | none => none
  | some d => bif Nat.blt d s.n then some { s with ch := (d, .hptr s.hp.length 0 0) :: s.ch, hp := s.hp ++ [AObj.var cs] } else none

/-- The cells that stand from an address on. -/
def St.mem (s : St) : AV → Option (List AV × Prop)
  | .fptr cs => some (cs, True)
  | .hptr id idx off => match s.hp[id]? with
    | some (.arr _ n row) => some ((row idx).drop off, idx < n)
    | some (.var cs) => bif Nat.beq idx 0 then some (cs.drop off, True) else none
    | _ => none
  | _ => none

def opLoad (T : TT) (s : St) (d : Option Nat) (t : TypeId) (a : AV) : Option St :=
  (T t).bind fun ts => (s.mem a).bind fun m =>
    bif Nat.ble 1 ts.size && Nat.ble ts.size (m.1.take ts.size).length then (s.need m.2).setd d (ofCells ts.isAgg (m.1.take ts.size)) else none

/-- Rows out of a list of rows. -/
def rw (l : List (List AV)) : Nat → List AV := fun i => (l[i]?).getD []
/-- Rows below a number. -/
def fz (n : Nat) (row : Nat → List AV) : Nat → List AV := fun i => if i < n then row i else []
def rowLen (n : Nat) (row : Nat → List AV) (sz : Nat) : Prop := ∀ i, i < n → (row i).length = sz
def constRow (z : List AV) : Nat → List AV := fun _ => z
def dropRow (b : Nat) (row : Nat → List AV) : Nat → List AV := fun i => row (b + i)

def splice (cs : List AV) (off : Nat) (new : List AV) : List AV := cs.take off ++ new ++ cs.drop (off + new.length)

def setRow (idx off : Nat) (new : List AV) (row : Nat → List AV) : Nat → List AV := fun i => if i = idx then splice (row idx) off new else row i

def opStore (T : TT) (s : St) (t : TypeId) (a x : AV) : Option St :=
  (T t).bind fun ts => bif Nat.beq (cellsOf x).length ts.size then
    match a with
    | .hptr id idx off => match s.hp[id]? with
      | some (.arr sz n row) => bif Nat.ble (off + ts.size) sz && (cellsOf x).all isFree then
          some ({ s with hp := s.hp.set id (.arr sz n (fz n (setRow idx off (cellsOf x) row))) }.need (idx < n)) else none
      | some (.var cs) => bif Nat.beq idx 0 && Nat.ble (off + ts.size) cs.length && (cellsOf x).all isCell then some { s with hp := s.hp.set id (.var (splice cs off (cellsOf x))) } else none
      | _ => none
    | _ => none
  else none

def opFieldAddr (T : TT) (s : St) (d : Option Nat) (t : TypeId) (a : AV) (f : Nat) : Option St :=
  (T t).bind fun ts => match ts.kind with
    | .struct fs => (fs[f]?).bind fun p => (T p.2).bind fun tf => bif Nat.ble 1 tf.size then
        match a with
        | .fptr cs => s.setd d (.fptr (cs.drop p.1))
        | .hptr id idx off => s.setd d (.hptr id idx (off + p.1))
        | _ => none
      else none
    | _ => none

def partA (ts : TS) (cs : List AV) (off : Nat) : Option AV :=
  bif Nat.ble (off + ts.size) cs.length then some (ofCells ts.isAgg ((cs.drop off).take ts.size)) else none

def opField (T : TT) (s : St) (d : Option Nat) (t : TypeId) (x : AV) (f : Nat) : Option St :=
  (T t).bind fun ts => match ts.kind, x with
    | .struct fs, .agg cs => (fs[f]?).bind fun p => (T p.2).bind fun tf => bif (tf.isAgg || Nat.beq tf.size 1) then (partA tf cs p.1).bind (s.setd d) else none
    | _, _ => none

def opIndexAddr (T : TT) (s : St) (d : Option Nat) (t : TypeId) (x i : AV) : Option St :=
  (T t).bind fun ts => match ts.kind, i with
    | .slice e, .int _ k => (T e).bind fun te => match x with
      | .list n row => (s.need ((0 ≤ k ∧ k < (n : Int)) ∧ (row k.toNat).length = te.size)).setd d (.fptr (row k.toNat))
      | .sl id b n => match s.hp[id]? with
        | some (.arr sz _ _) => bif Nat.beq sz te.size then (s.need (0 ≤ k ∧ k < (n : Int))).setd d (.hptr id (b + k.toNat) 0) else none
        | _ => none
      | _ => none
    | .array n e, .int _ (.ofNat k) => (T e).bind fun te => bif Nat.blt k n then
        match x with
        | .hptr id idx off => s.setd d (.hptr id idx (off + k * te.size))
        | .fptr cs => s.setd d (.fptr (cs.drop (k * te.size)))
        | _ => none
      else none
    | _, _ => none

def opIndex (T : TT) (s : St) (d : Option Nat) (t : TypeId) (x i : AV) : Option St :=
  (T t).bind fun ts => match ts.kind, x, i with
    | .array n e, .agg cs, .int _ k => (T e).bind fun te => bif te.isAgg then
          (s.need ((0 ≤ k ∧ k < (n : Int)) ∧ n * te.size ≤ cs.length)).setd d (.agg ((cs.drop (k.toNat * te.size)).take te.size))
        else bif Nat.beq te.size 1 then (s.need ((0 ≤ k ∧ k < (n : Int)) ∧ n ≤ cs.length)).setd d (cs.getD k.toNat .undef) else none
    | .str, .str b, .int _ k => (s.need (0 ≤ k ∧ k < (b.size : Int))).setd d (.int .u8 ((b.data.toList.getD k.toNat 0).toNat : Int))
    | _, _, _ => none

def opLen (T : TT) (s : St) (d : Option Nat) (t : TypeId) (x : AV) : Option St :=
  (T t).bind fun ts => match ts.kind, x with
    | .slice _, .list n _ => s.setd d (.int .i64 (n : Int))
    | .slice _, .sl _ _ n => s.setd d (.int .i64 (n : Int))
    | .slice _, .nilsl => s.setd d (.int .i64 0)
    | .slice _, .zsl => s.setd d (.int .i64 0)
    | .str, .str b => s.setd d (.int .i64 (b.size : Int))
    | .array n _, _ => s.setd d (.int .i64 (n : Int))
    | .map _ _, .nilmap => s.setd d (.int .i64 0)
    | .map _ _, .mp id => match s.hp[id]? with
      | some (.map es) => s.setd d (.int .i64 (es.length : Int))
      | _ => none
    | _, _ => none

/-- A slice's rows, to be read. -/
def St.rows (s : St) : AV → Option (Nat × (Nat → List AV) × Prop)
  | .list n row => some (n, row, True)
  | .nilsl => some (0, rw [], True)
  | .zsl => some (0, rw [], True)
  | .sl id b n => match s.hp[id]? with
    | some (.arr _ m row) => some (n, fz n (dropRow b row), b + n ≤ m)
    | _ => none
  | _ => none

def appendRow (n : Nat) (row row' : Nat → List AV) : Nat → List AV := fun i => if i < n then row i else row' (i - n)

def copyRow (b n : Nat) (row row' : Nat → List AV) : Nat → List AV := fun i => if b ≤ i ∧ i < b + n then row' (i - b) else row i

/-- Rows made a constant one. -/
def clearRow (b n : Nat) (z : List AV) (row : Nat → List AV) : Nat → List AV := fun i => if b ≤ i ∧ i < b + n then z else row i

def opAppend (T : TT) (own : Nat → Bool) (s : St) (d : Option Nat) (t t' : TypeId) (x y : AV) : Option St :=
  (T t).bind fun ts => match ts.kind with
    | .slice e => (T e).bind fun te => bif Nat.ble 1 te.size && Nat.beq t t' then (s.rows y).bind fun src =>
        match x with
        | .nilsl => bif own (d.getD 0) then ({ s with hp := s.hp ++ [AObj.arr te.size src.1 (fz src.1 src.2.1)] }.need (src.2.2 ∧ src.1 * te.bytes ≤ 140737488355328 ∧ (src.1 : Int) ≤ 9223372036854775807 ∧ rowLen src.1 src.2.1 te.size)).setd d (.sl s.hp.length 0 src.1) else (s.need (src.2.2 ∧ src.1 * te.bytes ≤ 140737488355328 ∧ (src.1 : Int) ≤ 9223372036854775807 ∧ rowLen src.1 src.2.1 te.size)).setd d (.list src.1 (fz src.1 src.2.1))
        | .zsl => bif own (d.getD 0) then ({ s with hp := s.hp ++ [AObj.arr te.size src.1 (fz src.1 src.2.1)] }.need (src.2.2 ∧ src.1 * te.bytes ≤ 140737488355328 ∧ (src.1 : Int) ≤ 9223372036854775807 ∧ rowLen src.1 src.2.1 te.size)).setd d (.sl s.hp.length 0 src.1) else (s.need (src.2.2 ∧ src.1 * te.bytes ≤ 140737488355328 ∧ (src.1 : Int) ≤ 9223372036854775807 ∧ rowLen src.1 src.2.1 te.size)).setd d (.list src.1 (fz src.1 src.2.1))
        | .sl id b n => match s.hp[id]? with
          | some (.arr sz m row) => bif Nat.beq sz te.size then bif own (d.getD 0 + 4000) then
              ({ s with hp := s.hp.set id (.arr sz m (fz m (copyRow (b + n) src.1 row src.2.1))) }.need (src.2.2 ∧ b + n + src.1 ≤ m ∧ rowLen src.1 src.2.1 te.size)).setd d (.sl id b (n + src.1)) else
              ({ s with hp := s.hp.set id .dead ++ [AObj.arr sz (n + src.1) (fz (n + src.1) (appendRow n (dropRow b row) src.2.1))] }.need
                (src.2.2 ∧ b + n = m ∧ (n + src.1) * te.bytes ≤ 140737488355328 ∧ ((n + src.1 : Nat) : Int) ≤ 9223372036854775807 ∧ rowLen src.1 src.2.1 te.size)).setd d (.sl s.hp.length 0 (n + src.1))
              else none
          | _ => none
        | _ => none
      else none
    | _ => none

def loA (lo : Option AV) : Option Int := match lo with
  | none => some 0
  | some (.int _ k) => some k
  | _ => none

def hiA (hi : Option AV) (n : Nat) : Option Int := match hi with
  | none => some n
  | some (.int _ k) => some k
  | _ => none

def lenA : AV → Option Nat
  | .list n _ => some n
  | .sl _ _ n => some n
  | .str b => some b.size
  | .nilsl => some 0
  | _ => none

def opSlice (T : TT) (s : St) (d : Option Nat) (t : TypeId) (x : AV) (lo hi : Option AV) : Option St :=
  (T t).bind fun ts => (lenA x).bind fun n => (loA lo).bind fun l => (hiA hi n).bind fun h => match ts.kind, x with
      | .slice e, .list _ row => (T e).bind fun te => (s.need ((0 ≤ l ∧ l ≤ h ∧ h ≤ (n : Int)) ∧ rowLen n row te.size)).setd d (.list (h.toNat - l.toNat) (fz (h.toNat - l.toNat) (dropRow l.toNat row)))
      | .slice e, .sl id b _ => (T e).bind fun te => match s.hp[id]? with
        | some (.arr sz m _) => bif Nat.beq sz te.size then (s.need (0 ≤ l ∧ l ≤ h ∧ (h ≤ (n : Int) ∨ (b : Int) + h ≤ (m : Int)))).setd d (.sl id (b + l.toNat) (h.toNat - l.toNat)) else none
        | _ => none
      | .slice e, .nilsl => (T e).bind fun _ => (s.need (l = 0 ∧ h = 0)).setd d .nilsl
      | .str, .str b => (s.need (0 ≤ l ∧ l ≤ h ∧ h ≤ (n : Int))).setd d (.str (b.extract l.toNat h.toNat))
      | _, _ => none

/-- A slice with a bound to its capacity: nothing is known of it but that it is there. -/
def opSlice3 (T : TT) (s : St) (d : Option Nat) (t : TypeId) (x : AV) (lo : Option AV) (hi mx : AV) : Option St :=
  (T t).bind fun ts => (lenA x).bind fun n => (loA lo).bind fun l => match ts.kind, x, hi, mx with
      | .slice e, .list _ _, .int _ h, .int _ m => (T e).bind fun _ => (s.need (0 ≤ l ∧ l ≤ h ∧ h ≤ m ∧ m ≤ (n : Int))).setd d .undef
      | .slice e, .sl _ _ _, .int _ h, .int _ m => (T e).bind fun _ => (s.need (0 ≤ l ∧ l ≤ h ∧ h ≤ m ∧ m ≤ (n : Int))).setd d .undef
      | _, _, _, _ => none

/-- A slice's elements made zero. -/
def opClear (T : TT) (s : St) (t : TypeId) (x : AV) : Option St :=
  (T t).bind fun ts => match ts.kind, x with
    | .slice e, .sl id b n => (T e).bind fun te => match s.hp[id]? with
      | some (.arr sz m row) => bif Nat.beq sz te.size && Nat.ble 1 te.size then some ({ s with hp := s.hp.set id (.arr sz m (fz m (clearRow b n te.zero row))) }.need (b + n ≤ m)) else none
      | _ => none
    | _, _ => none

def intBin (op : BinOp) (k : IntKind) (a b : Int) : Option (AV × Prop) :=
  match op with
  | .add => some (.int k (k.wrap (a + b)), True)
  | .sub => some (.int k (k.wrap (a - b)), True)
  | .mul => some (.int k (k.wrap (a * b)), True)
  | .quo => some (.int k (k.wrap (a.tdiv b)), b ≠ 0)
  | .rem => some (.int k (a.tmod b), b ≠ 0)
  | .eql => some (.bool (a == b), True)
  | .neq => some (.bool (a != b), True)
  | .lss => some (.bool (decide (a < b)), True)
  | .leq => some (.bool (decide (a ≤ b)), True)
  | .gtr => some (.bool (decide (a > b)), True)
  | .geq => some (.bool (decide (a ≥ b)), True)
  | _ => none

def strBin (op : BinOp) (a b : ByteArray) : Option (AV × Prop) :=
  match op with
  | .add => some (.str (a ++ b), ((a.size + b.size : Nat) : Int) ≤ 9223372036854775807)
  | .eql => some (.bool (decide (a = b)), True)
  | .neq => some (.bool (!decide (a = b)), True)
  | .lss => some (.bool (Op.bytesLess a.toList b.toList), True)
  | _ => none

def opBin (T : TT) (s : St) (d : Option Nat) (op : BinOp) (t : TypeId) (x y : AV) : Option St :=
  match x, y with
  | .int k a, .int k' b => bif decide (k = k') then (intBin op k a b).bind fun r => (s.need r.2).setd d r.1 else none
  | .str a, .str b => (strBin op a b).bind fun r => (s.need r.2).setd d r.1
  | .bool a, .bool b => (T t).bind fun ts => match ts.kind, op with
    | .bool, .eql => s.setd d (.bool (a == b))
    | .bool, .neq => s.setd d (.bool (!(a == b)))
    | _, _ => none
  | .agg as, .agg bs => (T t).bind fun ts => bif ts.isAgg && (!ts.eq.isEmpty) && cksB ts.eq as && cksB ts.eq bs then (eqC as bs).bind fun r => match op with
    | .eql => s.setd d (.bool r)
    | .neq => s.setd d (.bool (!r))
    | _ => none
    else none
  | _, _ => none

def opUn (s : St) (d : Option Nat) (op : UnOp) (x : AV) : Option St :=
  match op, x with
  | .not, .bool b => s.setd d (.bool (!b))
  | .neg, .int k n => s.setd d (.int k (k.wrap (0 - n)))
  | _, _ => none

/-- The bytes of a row of bytes. -/
def bytesOf (n : Nat) (row : Nat → List AV) : ByteArray := ⟨((List.range n).map fun i => match row i with | [.int .u8 v] => UInt8.ofNat v.toNat | _ => 0).toArray⟩
def byteRow (n : Nat) (row : Nat → List AV) : Prop := ∀ i, i < n → ∃ v, row i = [.int .u8 v]
def opBytesStr (T : TT) (s : St) (d : Option Nat) (ts : TS) (n : Nat) (row : Nat → List AV) : Option St := match ts.kind with
  | .slice e => (T e).bind fun te => match te.kind with
    | .int .u8 => (s.need (byteRow n row)).setd d (.str (bytesOf n row))
    | _ => none
  | _ => none

def opConvert (T : TT) (s : St) (d : Option Nat) (src dst : TypeId) (x : AV) : Option St :=
  (T src).bind fun ts => (T dst).bind fun td => match td.kind, x with
    | .int k, .int _ n => s.setd d (.int k (k.wrap n))
    | .str, .str b => s.setd d (.str b)
    | .str, .int _ n => s.setd d (.str (Utf8.encode n))
    | .str, .list n row => opBytesStr T s d ts n row
    | _, _ => none

def opExtract (s : St) (d : Option Nat) (x : AV) (i : Nat) : Option St :=
  match x with
  | .tup vs => (vs[i]?).bind (s.setd d)
  | _ => none

/-- Parts laid into cells. -/
def fillA (place : Nat → Option (Nat × Nat)) (cells : List AV) : List (Nat × AV) → Option (List AV)
  | [] => some cells
  | (i, v) :: rest => (place i).bind fun p =>
    bif Nat.beq (cellsOf v).length p.2 && Nat.ble (p.1 + p.2) cells.length && (cellsOf v).all (fun c => isCell c) then fillA place (splice cells p.1 (cellsOf v)) rest else none

def placeOf (T : TT) (fs : List (Nat × TypeId)) (i : Nat) : Option (Nat × Nat) := (fs[i]?).bind fun p => (T p.2).map fun tf => (p.1, tf.size)

def opBuild (T : TT) (s : St) (d : Option Nat) (t : TypeId) (parts : List (Nat × AV)) : Option St :=
  (T t).bind fun ts => match ts.kind with
    | .struct fs => bif fs.all (fun p => (T p.2).isSome) then (fillA (placeOf T fs) ts.zero parts).bind fun cs => s.setd d (.agg cs) else none
    | .array _ e => (T e).bind fun te => (fillA (fun i => some (i * te.size, te.size)) ts.zero parts).bind fun cs => s.setd d (.agg cs)
    | _ => none

/-- Rows of a list. -/
def rowsOf (sz : Nat) (cs : List AV) : Nat → List AV := fun i => (cs.drop (i * sz)).take sz

def opBuildSlice (T : TT) (own : Nat → Bool) (s : St) (d : Option Nat) (t : TypeId) (len : Nat) (parts : List (Nat × AV)) : Option St :=
  (T t).bind fun ts => match ts.kind with
    | .slice e => (T e).bind fun te => bif Nat.ble (len * te.size) 16777216 && Nat.ble 1 te.size then
        (fillA (fun i => some (i * te.size, te.size)) ((List.replicate len te.zero).flatten) parts).bind fun cs =>
          bif cs.all isFree then
            bif Nat.beq len 0 then s.setd d .zsl
            else bif own (d.getD 0) then { s with hp := s.hp ++ [AObj.arr te.size len (fz len (rowsOf te.size cs))] }.setd d (.sl s.hp.length 0 len)
            else s.setd d (.list len (fz len (rowsOf te.size cs)))
          else none
      else none
    | _ => none

def opMakeSlice (T : TT) (own : Nat → Bool) (s : St) (d : Option Nat) (t : TypeId) (l c : AV) : Option St :=
  (T t).bind fun ts => match ts.kind, l, c with
    | .slice e, .int .i64 n, .int .i64 m => (T e).bind fun te => bif Nat.ble 1 te.size then
        bif own (d.getD 0 + 2000) then (s.need (0 ≤ n ∧ n ≤ m ∧ m * (te.bytes : Int) ≤ 140737488355328 ∧ m ≤ 9223372036854775807)).setd d (.list n.toNat (fz n.toNat (constRow te.zero)))
        else ({ s with hp := s.hp ++ [AObj.arr te.size n.toNat (fz n.toNat (constRow te.zero))] }.need (0 ≤ n ∧ n ≤ m ∧ m * (te.bytes : Int) ≤ 140737488355328 ∧ m ≤ 9223372036854775807)).setd d (.sl s.hp.length 0 n.toNat)
      else none
    | _, _, _ => none


def opCopy (T : TT) (s : St) (d : Option Nat) (t : TypeId) (x y : AV) : Option St :=
  (T t).bind fun ts => match ts.kind with
    | .slice e => (T e).bind fun te => (s.rows y).bind fun src => match x with
      | .sl id b n => match s.hp[id]? with
        | some (.arr sz m row) => bif Nat.beq sz te.size && Nat.ble 1 te.size then
            ({ s with hp := s.hp.set id (.arr sz m (fz m (copyRow b (Nat.min src.1 n) row src.2.1))) }.need (src.2.2 ∧ b + n ≤ m ∧ rowLen src.1 src.2.1 te.size)).setd d (.int .i64 (Nat.min src.1 n : Nat))
          else none
        | _ => none
      | _ => none
    | _ => none

/-- The entry of a key, by the keys' own '=='. -/
def sameKey : AV → AV → Option Bool
  | .int k a, .int k' b => bif decide (k = k') then some (a == b) else none
  | .str a, .str b => some (a == b)
  | .bool a, .bool b => some (a == b)
  | .agg as, .agg bs => eqC as bs
  | _, _ => none

def findA (k : AV) : List (AV × AV) → Option (Option AV)
  | [] => some none
  | e :: es => match sameKey k e.1 with
    | some b => bif b then some (some e.2) else findA k es
    | none => none

def putA (k v : AV) : List (AV × AV) → List (AV × AV)
  | [] => [(k, v)]
  | e :: es => match sameKey k e.1 with
    | some b => bif b then (k, v) :: es else e :: putA k v es
    | none => e :: es

def opMakeMap (T : TT) (s : St) (d : Option Nat) (t : TypeId) (r : Option AV) : Option St :=
  match r with
  | none => ({ s with hp := s.hp ++ [AObj.map []] }).setd d (.mp s.hp.length)
  | some (.int _ _) => (T t).bind fun ts => match ts.kind with
    | .map _ _ => ({ s with hp := s.hp ++ [AObj.map []] }).setd d (.mp s.hp.length)
    | _ => none
  | _ => none

def keyOk (tk : TS) (v : AV) : Bool := match tk.kind, v with
  | .int k, .int k' _ => decide (k = k')
  | .str, .str _ => true
  | .bool, .bool _ => true
  | .struct _, .agg cs => (!tk.eq.isEmpty) && cksB tk.eq cs
  | _, _ => false

def opLookup (T : TT) (s : St) (d : Option Nat) (t : TypeId) (x k : AV) (ok : Bool) : Option St :=
  (T t).bind fun ts => match ts.kind with
    | .map kt et => (T kt).bind fun tk => (T et).bind fun te =>
      let es : Option (List (AV × AV)) := match x with
        | .nilmap => some []
        | .mp id => match s.hp[id]? with | some (.map es) => some es | _ => none
        | _ => none
      es.bind fun es => bif keyOk tk k && (bif te.isAgg then false else Nat.beq te.size 1) then
        (findA k es).bind fun r =>
          let v := r.getD (te.zero.headD .undef)
          s.setd d (bif ok then .tup [v, .bool r.isSome] else v)
      else none
    | _ => none

def opMapUpdate (T : TT) (s : St) (t : TypeId) (m k v : AV) : Option St :=
  (T t).bind fun ts => match ts.kind, m with
    | .map kt _, .mp id => (T kt).bind fun tk => match s.hp[id]? with
      | some (.map es) => bif keyOk tk k && isFree v then (findA k es).bind fun _ => some { s with hp := s.hp.set id (.map (putA k v es)) } else none
      | _ => none
    | _, _ => none

def opMakeInterface (T : TT) (s : St) (d : Option Nat) (t : TypeId) (x : AV) : Option St :=
  (T t).bind fun ts => bif isFree x && ts.kind.solid then s.setd d (.iface t x) else none

def opNilCheck (s : St) (d : Option Nat) (x : AV) : Option St :=
  match x with
  | .hptr _ _ _ => s.setd d x
  | .fptr _ => s.setd d x
  | _ => none

def opMakeFunc (s : St) (d : Option Nat) (f : Fn) (a c : List AV) : Option St :=
  match f with
  | .func g => s.setd d (.clos g a c)
  | _ => none

def opRange (T : TT) (s : St) (d : Option Nat) (t : TypeId) (x : AV) : Option St :=
  (T t).bind fun ts => match ts.kind, x with
    | .str, .str b => ({ s with hp := s.hp ++ [AObj.siter b 0] }).setd d (.hptr s.hp.length 0 0)
    | _, _ => none

/-- The greater, the lesser of two numbers. -/
def imax (a b : Int) : Int := if b > a then b else a
def imin (a b : Int) : Int := if b < a then b else a

def opMax (s : St) (d : Option Nat) (x y : AV) : Option St :=
  match x, y with
  | .int k a, .int _ b => s.setd d (.int k (imax a b))
  | _, _ => none

def opMin (s : St) (d : Option Nat) (x y : AV) : Option St :=
  match x, y with
  | .int k a, .int _ b => s.setd d (.int k (imin a b))
  | _, _ => none

def opf (T : TT) (own : Nat → Bool) (o : Oper) (s : St) : Option St :=
  match o.op with
  | .move x => s.setd o.dst (s.ev x)
  | .assign x => s.setd o.dst (s.ev x)
  | .pick c a b => match s.ev c with
    | .bool c => s.setd o.dst (bif c then s.ev a else s.ev b)
    | _ => none
  | .alloc t => (T t).bind fun ts => s.newBox o.dst ts.zero
  | .box _ x => bif (cellsOf (s.ev x)).all isCell then s.newBox o.dst (cellsOf (s.ev x)) else none
  | .load t a => opLoad T s o.dst t (s.ev a)
  | .store t a x => match o.dst with | none => opStore T s t (s.ev a) (s.ev x) | some _ => none
  | .fieldAddr t x f => opFieldAddr T s o.dst t (s.ev x) f
  | .field t x f => opField T s o.dst t (s.ev x) f
  | .indexAddr t x i => opIndexAddr T s o.dst t (s.ev x) (s.ev i)
  | .index t x i => opIndex T s o.dst t (s.ev x) (s.ev i)
  | .build t ps => opBuild T s o.dst t (ps.toList.map fun p => (p.1, s.ev p.2))
  | .buildSlice t n ps => opBuildSlice T own s o.dst t n (ps.toList.map fun p => (p.1, s.ev p.2))
  | .makeSlice t l c => opMakeSlice T own s o.dst t (s.ev l) (s.ev c)
  | .slice t x lo hi none => opSlice T s o.dst t (s.ev x) (lo.map s.ev) (hi.map s.ev)
  | .slice t x lo (some hi) (some mx) => opSlice3 T s o.dst t (s.ev x) (lo.map s.ev) (s.ev hi) (s.ev mx)
  | .binOp op t x y _ => opBin T s o.dst op t (s.ev x) (s.ev y)
  | .unOp op _ x => opUn s o.dst op (s.ev x)
  | .convert src dst x => opConvert T s o.dst src dst (s.ev x)
  | .extract x i => opExtract s o.dst (s.ev x) i
  | .makeInterface t x => opMakeInterface T s o.dst t (s.ev x)
  | .makeMap t r => opMakeMap T s o.dst t (r.map s.ev)
  | .range t x => opRange T s o.dst t (s.ev x)
  | .nilCheck x => opNilCheck s o.dst (s.ev x)
  | .makeFunc f a c => opMakeFunc s o.dst f (a.toList.map s.ev) (c.toList.map s.ev)
  | .lookup t x k ok => opLookup T s o.dst t (s.ev x) (s.ev k) ok
  | .mapUpdate t m k v => match o.dst with | none => opMapUpdate T s t (s.ev m) (s.ev k) (s.ev v) | some _ => none
  | .insert t m k v => match o.dst with | none => opMapUpdate T s t (s.ev m) (s.ev k) (s.ev v) | some _ => none
  | .call c => match c.callee, c.args.toList, c.argTypes.toList with
    | .builtin .len, [x], [t] => opLen T s o.dst t (s.ev x)
    | .builtin .append, [x, y], [t, t'] => opAppend T own s o.dst t t' (s.ev x) (s.ev y)
    | .builtin .copy, [x, y], [t, _] => opCopy T s o.dst t (s.ev x) (s.ev y)
    | .builtin .clear, [x], [t] => match o.dst with | none => opClear T s t (s.ev x) | some _ => none
    | .builtin .max, [x, y], _ => opMax s o.dst (s.ev x) (s.ev y)
    | .builtin .min, [x, y], _ => opMin s o.dst (s.ev x) (s.ev y)
    | _, _, _ => none
  | _ => none

end Go.Av

namespace Go.Av

theorem RepF.mono {F F' : Nat → Prop} {w w' : World} {v : AV} {x : Value} (h : RepF F w v x) (hF : ∀ b, F b → F' b) (hw : ∀ b, F b → w'.heap[b]? = w.heap[b]?) : RepF F' w' v x := by
  induction h with
  | bool b => exact .bool b
  | int k n => exact .int k n
  | str s => exact .str s
  | nilptr => exact .nilptr
  | nilmap => exact .nilmap
  | nilif => exact .nilif
  | nilfn => exact .nilfn
  | yld l => exact .yld l
  | nilsl => exact .nilsl
  | zsl a => exact .zsl a
  | iface t v x _ ih => exact .iface t v x ih
  | empty row a cap => exact .empty row a cap
  | list n row b o cap sz vs h1 hcap hsz hc hf _ ih =>
    exact .list n row b o cap sz vs (hF _ h1) hcap hsz (fun i j c hi hj => by rw [← hc i j c hi hj]; exact World.cell?_of_block (hw _ h1)) hf ih
  | fptr cells b o vs h1 hc hf _ ih =>
    exact .fptr cells b o vs (hF _ h1) (fun j c hj => by rw [← hc j c hj]; exact World.cell?_of_block (hw _ h1)) hf ih

theorem RepF.oneCell {F : Nat → Prop} {w : World} {v : AV} {x : Value} (h : RepF F w v x) : x.oneCell' = true := by cases h <;> rfl

theorem RepF.isFree {F : Nat → Prop} {w : World} {v : AV} {x : Value} (h : RepF F w v x) : isFree v = true := by cases h <;> rfl

/-- No reference into the owned heap or to a local box stands in the value. -/
theorem RepP.mono {F F' : Nat → Prop} {w w' : World} {v : AV} {x : Value} (h : RepP F w v x) (hF : ∀ b, F b → F' b) (hw : ∀ b, F b → w'.heap[b]? = w.heap[b]?) : RepP F' w' v x := by
  rcases h with h | ⟨cs, xs, e1, e2, e3, h⟩
  · exact .inl (h.mono hF hw)
  · exact .inr ⟨cs, xs, e1, e2, e3, fun j c hj => (h j c hj).mono hF hw⟩

theorem Rep.toF {E : Env} {w : World} {v : AV} {x : Value} (h : Rep E w v x) (hv : isFree v = true) : RepF E.F w v x := by
  cases h with
  | fz v x h => exact h
  | undef | sl | hptr | mp | agg | tup | clos => simp [Go.Av.isFree] at hv

theorem Rep.oneCell {E : Env} {w : World} {v : AV} {x : Value} (h : Rep E w v x) (hv : isCell v = true) : x.oneCell' = true := by
  cases h with
  | fz v x h => exact h.oneCell
  | undef | agg | tup => simp [isCell] at hv
  | sl | hptr | mp | clos => rfl

/-- The value with its references: what an environment must agree on. -/
structure Env.Le (E E' : Env) : Prop where
  F : ∀ b, E.F b → E'.F b
  N : E.N ≤ E'.N
  ρ : ∀ i, i < E.N → E'.ρ i = E.ρ i
  σ : ∀ i, i < E.N → E'.σ i = E.σ i
  κ : ∀ i, i < E.N → E'.κ i = E.κ i
  ω : ∀ i, i < E.N → E'.ω i = E.ω i

theorem Rep.mono {E E' : Env} {w w' : World} {v : AV} {x : Value} (h : Rep E w v x) (hE : E.Le E') (hw : ∀ b, E.F b → w'.heap[b]? = w.heap[b]?) : Rep E' w' v x := by
  induction h with
  | undef x => exact .undef x
  | fz v x h => exact .fz v x (h.mono hE.F hw)
  | sl id base len av hi h ha =>
    rw [← hE.κ id hi]
    exact .sl id base len av (Nat.lt_of_lt_of_le hi hE.N) (by rw [hE.κ id hi]; exact h) (by rw [hE.ρ id hi, hE.κ id hi, hE.σ id hi, hE.ω id hi]; exact ha)
  | hptr id idx off b hi h =>
    rw [← hE.σ id hi, ← hE.ω id hi]
    exact .hptr id idx off b (Nat.lt_of_lt_of_le hi hE.N) (by rw [hE.ρ id hi]; exact h)
  | mp id b hi h => exact .mp id b (Nat.lt_of_lt_of_le hi hE.N) (by rw [hE.ρ id hi]; exact h)
  | agg cells vs hn _ ih => exact .agg cells vs hn ih
  | tup cells vs hn _ ih => exact .tup cells vs hn ih
  | clos f a c xa xc ha hc _ _ ih1 ih2 => exact .clos f a c xa xc ha hc ih1 ih2

theorem getElem?_map_some {α β : Type} {f : α → β} {l : List α} {i : Nat} {c : β} (h : (l.map f)[i]? = some c) : ∃ a, l[i]? = some a ∧ f a = c := by
  simpa using h

end Go.Av

namespace Go.Av

def Live (H : List AObj) (id : Nat) : Prop := ∃ o, H[id]? = some o ∧ o ≠ .dead

def Owned (E : Env) (H : List AObj) (b : Nat) : Prop := ∃ id, Live H id ∧ E.ρ id = some b

/-- An object that bears no mark. -/
def unf : Obj → Prop
  | .cells _ _ fr => fr = (0, 0)
  | _ => True

theorem frozen_alloc (w : World) (o : Obj) (ho : unf o) (a : Addr) : (w.alloc o).frozen? a = w.frozen? a := by
  unfold World.frozen?
  by_cases h : a.block = w.heap.size
  · have e1 : (w.alloc o).heap[a.block]? = some o := by show (w.heap.push o)[a.block]? = _; rw [h]; simp
    have e2 : w.heap[a.block]? = none := by rw [h]; simp
    rw [e1, e2]
    cases o with
    | cells c t fr => have : fr = (0, 0) := ho; subst this; simp
    | _ => rfl
  · have e1 : (w.alloc o).heap[a.block]? = w.heap[a.block]? := by show (w.heap.push o)[a.block]? = _; rw [Array.getElem?_push, if_neg h]
    rw [e1]

/-- Whether contracts say that the count of draws never falls. -/
class Drawn where
  on : Prop
instance (priority := low) drawnOff : Drawn := ⟨False⟩
def DrawnOn [D : Drawn] : Prop := D.on
variable [Drawn]

structure Keeps (O : Nat → Prop) (w w' : World) : Prop where
  os : w'.os = w.os
  tape : w'.tape = w.tape
  output : w'.output = w.output
  size : w.heap.size ≤ w'.heap.size
  block : ∀ b, b < w.heap.size → ¬ O b → w'.heap[b]? = w.heap[b]?
  frz : ∀ a, a.block < w.heap.size → w'.frozen? a = w.frozen? a
  drawn : DrawnOn → w.drawn ≤ w'.drawn

theorem Keeps.refl (O : Nat → Prop) (w : World) : Keeps O w w := ⟨rfl, rfl, rfl, Nat.le_refl _, fun _ _ _ => rfl, fun _ _ => rfl, fun _ => Nat.le_refl _⟩

theorem Keeps.trans {O O' : Nat → Prop} {w w1 w2 : World} (h : Keeps O w w1) (k : Keeps O' w1 w2) (hO : ∀ b, b < w.heap.size → O' b → O b) : Keeps O w w2 :=
  ⟨k.os.trans h.os, k.tape.trans h.tape, k.output.trans h.output, Nat.le_trans h.size k.size,
   fun b hb hn => (k.block b (Nat.lt_of_lt_of_le hb h.size) (fun hc => hn (hO b hb hc))).trans (h.block b hb hn), fun a ha => (k.frz a (Nat.lt_of_lt_of_le ha h.size)).trans (h.frz a ha), fun d => Nat.le_trans (h.drawn d) (k.drawn d)⟩

/-- All that was there stands as it stood. -/
structure Same (w w' : World) : Prop where
  os : w'.os = w.os
  tape : w'.tape = w.tape
  output : w'.output = w.output
  size : w.heap.size ≤ w'.heap.size
  block : ∀ b, b < w.heap.size → w'.heap[b]? = w.heap[b]?
  frz : ∀ a, a.block < w.heap.size → w'.frozen? a = w.frozen? a
  drawn : DrawnOn → w.drawn ≤ w'.drawn

theorem Same.refl (w : World) : Same w w := ⟨rfl, rfl, rfl, Nat.le_refl _, fun _ _ => rfl, fun _ _ => rfl, fun _ => Nat.le_refl _⟩
theorem Same.alloc (w : World) (o : Obj) (ho : unf o := by first | exact rfl | exact trivial) : Same w (w.alloc o) := ⟨rfl, rfl, rfl, by simp, fun b hb => by show (w.heap.push o)[b]? = _; rw [Array.getElem?_push, if_neg (by omega)], fun a _ => frozen_alloc w o ho a, fun _ => Nat.le_refl _⟩
theorem Same.drew (w : World) : Same w w.drew := ⟨rfl, rfl, rfl, Nat.le_refl _, fun _ _ => rfl, fun _ _ => rfl, fun _ => Nat.le_succ _⟩
theorem Same.trans {w w1 w2 : World} (h : Same w w1) (k : Same w1 w2) : Same w w2 :=
  ⟨k.os.trans h.os, k.tape.trans h.tape, k.output.trans h.output, Nat.le_trans h.size k.size, fun b hb => (k.block b (Nat.lt_of_lt_of_le hb h.size)).trans (h.block b hb), fun a ha => (k.frz a (Nat.lt_of_lt_of_le ha h.size)).trans (h.frz a ha), fun d => Nat.le_trans (h.drawn d) (k.drawn d)⟩
theorem Same.keeps {O : Nat → Prop} {w w1 : World} (h : Same w w1) : Keeps O w w1 := ⟨h.os, h.tape, h.output, h.size, fun b hb _ => h.block b hb, h.frz, h.drawn⟩

def ArrRep (E : Env) (w : World) (id sz n : Nat) (row : Nat → List AV) : Prop :=
  E.σ id = sz ∧ 0 < sz ∧ n ≤ E.κ id ∧ E.κ id ≤ 9223372036854775807 ∧ (∀ i, i < n → (row i).length = sz) ∧
  match E.ρ id with
  | none => n = 0 ∧ E.κ id = 0
  | some b => ∃ arr ty, w.heap[b]? = some (.cells arr ty (0, 0)) ∧ (E.ω id + E.κ id) * sz ≤ arr.size ∧
      ∀ i j c, i < n → (row i)[j]? = some c → ∃ v, arr[(E.ω id + i) * sz + j]? = some v ∧ RepF E.F w c v

def VarRep (E : Env) (w : World) (id : Nat) (cs : List AV) : Prop :=
  E.ω id = 0 ∧ ∃ b arr ty, E.ρ id = some b ∧ w.heap[b]? = some (.cells arr ty (0, 0)) ∧ arr.size = cs.length ∧
    ∀ (j : Nat) c, cs[j]? = some c → isCell c = true ∧ ∃ v, arr[j]? = some v ∧ Rep E w c v

theorem fz_get {n i : Nat} {row : Nat → List AV} (h : i < n) : fz n row i = row i := if_pos h

theorem ArrRep.congr {E : Env} {w : World} {id sz n : Nat} {row row' : Nat → List AV} (h : ArrRep E w id sz n row) (hr : ∀ i, i < n → row i = row' i) : ArrRep E w id sz n row' := by
  obtain ⟨h1, h2, h3, h4, h5, h6⟩ := h
  refine ⟨h1, h2, h3, h4, fun i hi => by rw [← hr i hi]; exact h5 i hi, ?_⟩
  cases hρ : E.ρ id with
  | none => rw [hρ] at h6; exact h6
  | some b =>
    rw [hρ] at h6
    obtain ⟨arr, ty, g1, g2, g3⟩ := h6
    exact ⟨arr, ty, g1, g2, fun i j c hi hc => g3 i j c hi (by rw [hr i hi]; exact hc)⟩

theorem ArrRep.fz {E : Env} {w : World} {id sz n : Nat} {row : Nat → List AV} (h : ArrRep E w id sz n row) : ArrRep E w id sz n (fz n row) := h.congr fun _ hi => (fz_get hi).symm

theorem RepF.congr {F : Nat → Prop} {w : World} {n : Nat} {row row' : Nat → List AV} {x : Value} (h : RepF F w (.list n row) x) (hr : ∀ i, i < n → row i = row' i) : RepF F w (.list n row') x := by
  cases h with
  | empty => exact .empty _ _ _
  | list _ _ b o cap sz vs hF hcap hsz hc hf h =>
    exact .list n row' b o cap sz vs hF hcap (fun i hi => by rw [← hr i hi]; exact hsz i hi) (fun i j c hi hj => hc i j c hi (by rw [hr i hi]; exact hj))
      (fun i j c hi hj => hf i j c hi (by rw [hr i hi]; exact hj)) (fun i j c hi hj => h i j c hi (by rw [hr i hi]; exact hj))

theorem RepF.fz {F : Nat → Prop} {w : World} {n : Nat} {row : Nat → List AV} {x : Value} (h : RepF F w (.list n row) x) : RepF F w (.list n (fz n row)) x := h.congr fun _ hi => (fz_get hi).symm

/-- An object that is no cells. -/
def bare : Obj → Prop
  | .cells _ _ _ => False
  | _ => True

/-- A map's entries were born one after the other. -/
def Born (mes : Array MapEntry) (clk : Nat) : Prop := (∀ e ∈ mes.toList, e.born < clk) ∧ (mes.toList.map (·.born)).Nodup

/-- What a range over a map has left of the map, which is not to be written any more. -/
def ItRep (F : Nat → Prop) (w : World) (m since : Nat) (seen : Array Nat) (last : Nat) (cur : Option (AV × AV)) (left : List (AV × AV)) : Prop :=
  ∃ mes clk, F m ∧ w.heap[m]? = some (.map mes clk) ∧ since = clk ∧ last = clk ∧ Born mes clk ∧
    (mes.toList.filter fun e => !seen.contains e.born).length = left.length ∧
    (∀ (i : Nat) e, left[i]? = some e → ∃ me, (mes.toList.filter fun e => !seen.contains e.born)[i]? = some me ∧ RepP F w e.1 me.key ∧ RepF F w e.2 me.val) ∧
    ∀ e, cur = some e → ∃ me, seen.back? = some me.born ∧ mes.find? (·.born == me.born) = some me ∧ RepP F w e.1 me.key ∧ RepF F w e.2 me.val

theorem ItRep.mono {F F' : Nat → Prop} {w w' : World} {m since : Nat} {seen : Array Nat} {last : Nat} {cur : Option (AV × AV)} {left : List (AV × AV)} (h : ItRep F w m since seen last cur left)
    (hF : ∀ b, F b → F' b) (hb : ∀ b, F b → w'.heap[b]? = w.heap[b]?) : ItRep F' w' m since seen last cur left := by
  obtain ⟨mes, clk, h1, h2, h3, h4, h5, h6, h7, h8⟩ := h
  refine ⟨mes, clk, hF m h1, by rw [hb m h1]; exact h2, h3, h4, h5, h6, fun i e he => ?_, fun e he => ?_⟩
  · obtain ⟨me, g1, g2, g3⟩ := h7 i e he
    exact ⟨me, g1, g2.mono hF hb, g3.mono hF hb⟩
  · obtain ⟨me, g0, g1, g2, g3⟩ := h8 e he
    exact ⟨me, g0, g1, g2.mono hF hb, g3.mono hF hb⟩

theorem ItRep.cur {F : Nat → Prop} {w : World} {m since : Nat} {seen : Array Nat} {last : Nat} {c c' : Option (AV × AV)} {left : List (AV × AV)} (h : ItRep F w m since seen last c left) (hc : c' = none ∨ c' = c) : ItRep F w m since seen last c' left := by
  rcases hc with rfl | rfl
  · obtain ⟨mes, clk, h1, h2, h3, h4, h5, h6, h7, _⟩ := h
    exact ⟨mes, clk, h1, h2, h3, h4, h5, h6, h7, fun e he => by cases he⟩
  · exact h

def ObjRep (E : Env) (w : World) (id : Nat) : AObj → Prop
  | .dead => True
  | .slot => E.ρ id = none ∧ E.κ id = 0 ∧ E.ω id = 0
  | .var cs => VarRep E w id cs
  | .arr sz n row => ArrRep E w id sz n row
  | .map es => ∃ b mes clock, E.ρ id = some b ∧ w.heap[b]? = some (.map mes clock) ∧ mes.size = es.length ∧
      (∀ (i : Nat) e, es[i]? = some e → ∃ me, mes[i]? = some me ∧ RepP E.F w e.1 me.key ∧ RepF E.F w e.2 me.val) ∧ Born mes clock
  | .siter b p => ∃ k, E.ρ id = some k ∧ w.heap[k]? = some (.stringIter b p) ∧ E.ω id = 0 ∧ E.σ id = 0
  | .miter cur left => ∃ k m since seen last, E.ρ id = some k ∧ w.heap[k]? = some (.mapIter (some m) since seen last) ∧ ItRep E.F w m since seen last cur left ∧ E.ω id = 0 ∧ E.σ id = 0
  | .raw o => bare o ∧ ∃ k, E.ρ id = some k ∧ w.heap[k]? = some o ∧ E.ω id = 0 ∧ E.σ id = 0

structure HeapOk (E : Env) (H : List AObj) (w : World) : Prop where
  len : E.N = H.length
  obj : ∀ (id : Nat) o, H[id]? = some o → ObjRep E w id o
  lt : ∀ id b, Live H id → E.ρ id = some b → b < w.heap.size
  fr : ∀ id b, Live H id → E.ρ id = some b → ¬ E.F b
  inj : ∀ i j b, Live H i → Live H j → E.ρ i = some b → E.ρ j = some b → i = j
  frz : ∀ b, E.F b → b < w.heap.size

/-- A variable, known whole. -/
def VarOk (F : Nat → Prop) (w : World) (g : Nat) (v : AV) : Prop :=
  RepF F w v (.pointer (some ⟨g, 0, none⟩)) ∧ ∀ cells, v = .fptr cells → ∃ arr ty fr, w.heap[g]? = some (.cells arr ty fr) ∧ arr.size = cells.length

theorem VarOk.mono {F F' : Nat → Prop} {w w' : World} {g : Nat} {v : AV} (h : VarOk F w g v) (hF : ∀ b, F b → F' b) (hb : ∀ b, F b → w'.heap[b]? = w.heap[b]?) : VarOk F' w' g v := by
  refine ⟨h.1.mono hF hb, fun cells hc => ?_⟩
  obtain ⟨arr, ty, fr, h1, h2⟩ := h.2 cells hc
  subst hc
  have hg : F g := by have := h.1; cases this with | fptr _ _ _ _ hF _ _ _ => exact hF
  exact ⟨arr, ty, fr, by rw [hb g hg]; exact h1, h2⟩

/-- What is known of the program's variables at a walk's beginning. -/
structure LaidAt (G : List (Nat × AV)) (E : Env) (H : List AObj) (w : World) : Prop where
  rep : ∀ g, look G g = .undef ∨ VarOk E.F w g (look G g)
  frz : ∀ b, E.F b → b < w.heap.size ∧ ¬ Owned E H b

/-- .. by a contract's premise. -/
def Laid (G : List (Nat × AV)) (E : Env) (w : World) : Prop := ∀ g, look G g = .undef ∨ VarOk E.F w g (look G g)

theorem LaidAt.of {G : List (Nat × AV)} {E : Env} {H : List AObj} {w : World} (h : HeapOk E H w) (k : Laid G E w) : LaidAt G E H w := ⟨k, fun b hb => ⟨h.frz b hb, fun ⟨id, hl, e⟩ => h.fr id b hl e hb⟩⟩

theorem Laid.mono {G : List (Nat × AV)} {E E' : Env} {w : World} (h : Laid G E w) (hF : ∀ b, E.F b → E'.F b) : Laid G E' w := fun g => by
  rcases h g with q | q
  · exact .inl q
  · exact .inr (q.mono hF fun _ _ => rfl)

structure Models (E0 : Env) (H0 : List AObj) (w0 : World) (E : Env) (s : St) (a : Act) (w : World) : Prop where
  size : a.tmps.size = s.n
  tmps : ∀ t, Rep E w (look s.ch t) (a.tmps.getD t undef)
  heap : HeapOk E s.hp w
  base : s.base = H0.length ∧ H0.length ≤ s.hp.length
  old : ∀ id, id < s.base → (Live s.hp id → Live H0 id) ∧ E.ρ id = E0.ρ id ∧ E.σ id = E0.σ id ∧ E.κ id = E0.κ id ∧ E.ω id = E0.ω id
  new : ∀ id b, s.base ≤ id → Live s.hp id → E.ρ id = some b → w0.heap.size ≤ b ∨ Owned E0 H0 b
  F : ∀ b, E0.F b → E.F b
  Fnew : ∀ b, E.F b → E0.F b ∨ w0.heap.size ≤ b ∨ Owned E0 H0 b
  keeps : Keeps (Owned E0 H0) w0 w
  laid : LaidAt s.gl E0 H0 w0

theorem Env.Le.refl (E : Env) : E.Le E := ⟨fun _ h => h, Nat.le_refl _, fun _ _ => rfl, fun _ _ => rfl, fun _ _ => rfl, fun _ _ => rfl⟩

theorem ObjRep.same {E : Env} {w w' : World} {id : Nat} {o : AObj} (h : ObjRep E w id o) (hF : ∀ b, E.F b → w'.heap[b]? = w.heap[b]?) (hb : o ≠ .dead → ∀ b, E.ρ id = some b → w'.heap[b]? = w.heap[b]?) : ObjRep E w' id o := by
  cases o with
  | dead => trivial
  | slot => exact h
  | var cs =>
    obtain ⟨h0, b, arr, ty, h1, h2, h3, h4⟩ := h
    refine ⟨h0, b, arr, ty, h1, by rw [hb (by simp) b h1]; exact h2, h3, fun j c hj => ?_⟩
    obtain ⟨g1, u, g2, g3⟩ := h4 j c hj
    exact ⟨g1, u, g2, g3.mono (Env.Le.refl E) hF⟩
  | arr sz n row =>
    obtain ⟨h1, h2, h3, h4, h5, h6⟩ := h
    refine ⟨h1, h2, h3, h4, h5, ?_⟩
    have hb' := hb (by simp)
    cases hρ : E.ρ id with
    | none => rw [hρ] at h6; exact h6
    | some b =>
      rw [hρ] at h6
      obtain ⟨arr, ty, g1, g2, g3⟩ := h6
      refine ⟨arr, ty, by rw [hb' b hρ]; exact g1, g2, fun i j c hi hc => ?_⟩
      obtain ⟨v, hv, hr⟩ := g3 i j c hi hc
      exact ⟨v, hv, hr.mono (fun _ h => h) hF⟩
  | siter s p => obtain ⟨k, g0, g1, g2⟩ := h; exact ⟨k, g0, by rw [hb (by simp) k g0]; exact g1, g2⟩
  | miter cur left => obtain ⟨k, m, si, se, la, g0, g1, q1, g2⟩ := h; exact ⟨k, m, si, se, la, g0, by rw [hb (by simp) k g0]; exact g1, q1.mono (fun _ h => h) hF, g2⟩
  | raw o => obtain ⟨g, k, g0, g1, g2⟩ := h; exact ⟨g, k, g0, by rw [hb (by simp) k g0]; exact g1, g2⟩
  | map es =>
    obtain ⟨b, mes, clock, g0, g1, g2, g3, g4⟩ := h
    refine ⟨b, mes, clock, g0, by rw [hb (by simp) b g0]; exact g1, g2, fun i e he => ?_, g4⟩
    obtain ⟨me, h1, h2, h3⟩ := g3 i e he
    exact ⟨me, h1, h2.mono (fun _ h => h) hF, h3.mono (fun _ h => h) hF⟩

theorem HeapOk.same {E : Env} {H : List AObj} {w w' : World} (h : HeapOk E H w) (hs : Same w w') : HeapOk E H w' where
  len := h.len
  obj id o ho := (h.obj id o ho).same (fun b hb => hs.block b (h.frz b hb)) (fun hd b hb => hs.block b (h.lt id b ⟨o, ho, hd⟩ hb))
  lt id b hl hb := Nat.lt_of_lt_of_le (h.lt id b hl hb) hs.size
  fr := h.fr
  inj := h.inj
  frz b hb := Nat.lt_of_lt_of_le (h.frz b hb) hs.size

section
variable {E0 : Env} {H0 : List AObj} {w0 : World} {E : Env} {s s' : St} {a : Act} {w : World}

theorem Models.same (h : Models E0 H0 w0 E s a w) {w' : World} (hs : Same w w') : Models E0 H0 w0 E s a w' where
  size := h.size
  tmps t := (h.tmps t).mono (Env.Le.refl E) (fun b hb => hs.block b (h.heap.frz b hb))
  heap := h.heap.same hs
  base := h.base
  old := h.old
  new := h.new
  F := h.F
  Fnew := h.Fnew
  keeps := h.keeps.trans (O' := fun _ => False) hs.keeps (fun _ _ h => h.elim)
  laid := h.laid

/-- The condition that has been gathered is no part of what a state says. -/
theorem Models.cond (h : Models E0 H0 w0 E s a w) (c : Prop) : Models E0 H0 w0 E { s with cond := c } a w :=
  ⟨h.size, h.tmps, h.heap, h.base, h.old, h.new, h.F, h.Fnew, h.keeps, h.laid⟩

theorem getD_setIfInBounds {a : Array Value} {d t : Nat} {v z : Value} (hd : d < a.size) : (a.setIfInBounds d v).getD t z = if d = t then v else a.getD t z := by
  by_cases h : d = t
  · subst h; simp [Array.getD, hd]
  · simp only [Array.getD, Array.size_setIfInBounds, h, if_false]
    split
    · simp only [Array.getInternal_eq_getElem]; rw [Array.getElem_setIfInBounds_ne _ h]
    · rfl

theorem setd_some {d : Option Nat} {v : AV} {s' : St} (h : s.setd d v = some s') : s'.hp = s.hp ∧ s'.cond = s.cond ∧ s'.base = s.base ∧ s'.n = s.n ∧
    ((d = none ∧ s' = s) ∨ ∃ t, d = some t ∧ t < s.n ∧ s'.ch = (t, v) :: s.ch) := by
  cases d with
  | none => simp only [St.setd, Option.some.injEq] at h; subst h; simp
  | some t =>
    simp only [St.setd] at h
    cases hb : Nat.blt t s.n with
    | false => simp [hb] at h
    | true =>
      simp only [hb, cond_true, Option.some.injEq] at h
      subst h
      refine ⟨rfl, rfl, rfl, rfl, .inr ⟨t, rfl, ?_, rfl⟩⟩
      have : t + 1 ≤ s.n := by simpa [Nat.blt] using hb
      omega

theorem setd_gl {d : Option Nat} {v : AV} {s' : St} (h : s.setd d v = some s') : s'.gl = s.gl := by
  cases d with
  | none => simp only [St.setd, Option.some.injEq] at h; subst h; rfl
  | some t =>
    simp only [St.setd] at h
    cases hb : Nat.blt t s.n with
    | false => simp [hb] at h
    | true => simp only [hb, cond_true, Option.some.injEq] at h; subst h; rfl

/-- .. and now. -/
theorem Models.glob (h : Models E0 H0 w0 E s a w) : Laid s.gl E w := fun g => by
  rcases h.laid.rep g with q | q
  · exact .inl q
  · exact .inr (q.mono h.F fun b hb => h.keeps.block b (h.laid.frz b hb).1 (h.laid.frz b hb).2)

theorem look_val (t : Nat) (v : AV) (r : List (Nat × AV)) (n : Nat) : look ((t, v) :: r) n = if t = n then v else look r n := by
  show (bif Nat.beq t n then v else look r n) = _
  by_cases h : t = n
  · subst h; simp
  · rw [if_neg h]
    have : Nat.beq t n = false := by
      cases hb : Nat.beq t n with
      | false => rfl
      | true => exact absurd (Nat.eq_of_beq_eq_true hb) h
    rw [this]; rfl

/-- A value laid into a temporary. -/
theorem Models.setd (h : Models E0 H0 w0 E s a w) {d : Option Nat} {v : AV} {x : Value} {s' : St} (hs : s.setd d v = some s') (hv : Rep E w v x) : Models E0 H0 w0 E s' (a.put d x) w := by
  obtain ⟨e1, e2, e3, e4, e5⟩ := setd_some hs
  rcases e5 with ⟨rfl, rfl⟩ | ⟨t, rfl, ht, e5⟩
  · exact h
  · constructor
    · simp only [Act.put, Array.size_setIfInBounds, e4]; exact h.size
    · intro n
      rw [e5, look_val]
      simp only [Act.put]
      rw [getD_setIfInBounds (by rw [h.size]; exact ht)]
      split
      · exact hv
      · exact h.tmps n
    · rw [e1]; exact h.heap
    · rw [e1, e3]; exact h.base
    · rw [e1, e3]; exact h.old
    · rw [e1, e3]; exact h.new
    · exact h.F
    · exact h.Fnew
    · exact h.keeps
    · rw [setd_gl hs]; exact h.laid

end
end Go.Av

namespace Go.Av
variable [Drawn]

def TTOk (P : Program) (T : TT) : Prop := ∀ t ts, T t = some ts → TOk P t ts

def Env.new (E : Env) (r : Option Nat) (sg kp om : Nat) : Env :=
  { F := E.F, N := E.N + 1, ρ := fun i => if i = E.N then r else E.ρ i, σ := fun i => if i = E.N then sg else E.σ i,
    κ := fun i => if i = E.N then kp else E.κ i, ω := fun i => if i = E.N then om else E.ω i }

theorem Env.new_le (E : Env) (r : Option Nat) (sg kp om : Nat) : E.Le (E.new r sg kp om) :=
  ⟨fun _ h => h, Nat.le_succ _, fun i hi => if_neg (by omega), fun i hi => if_neg (by omega), fun i hi => if_neg (by omega), fun i hi => if_neg (by omega)⟩

section
variable {E0 : Env} {H0 : List AObj} {w0 : World} {E : Env} {s s' : St} {a : Act} {w : World} {P : Program} {T : TT} {o : Oper}

theorem ObjRep.mono {E' : Env} {w' : World} {id : Nat} {ob : AObj} (h : ObjRep E w id ob) (hi : id < E.N) (hE : E.Le E') (hF : ∀ b, E.F b → w'.heap[b]? = w.heap[b]?) (hb : ob ≠ .dead → ∀ b, E.ρ id = some b → w'.heap[b]? = w.heap[b]?) : ObjRep E' w' id ob := by
  cases ob with
  | dead => trivial
  | slot => exact ⟨by rw [hE.ρ id hi]; exact h.1, by rw [hE.κ id hi]; exact h.2.1, by rw [hE.ω id hi]; exact h.2.2⟩
  | var cs =>
    obtain ⟨h0, b, arr, ty, h1, h2, h3, h4⟩ := h
    refine ⟨by rw [hE.ω id hi]; exact h0, b, arr, ty, by rw [hE.ρ id hi]; exact h1, by rw [hb (by simp) b h1]; exact h2, h3, fun j c hj => ?_⟩
    obtain ⟨g1, u, g2, g3⟩ := h4 j c hj
    exact ⟨g1, u, g2, g3.mono hE hF⟩
  | arr sz n row =>
    obtain ⟨h1, h2, h3, h4, h5, h6⟩ := h
    refine ⟨by rw [hE.σ id hi]; exact h1, h2, by rw [hE.κ id hi]; exact h3, by rw [hE.κ id hi]; exact h4, h5, ?_⟩
    have hb' := hb (by simp)
    rw [hE.ρ id hi, hE.κ id hi, hE.ω id hi]
    cases hρ : E.ρ id with
    | none => rw [hρ] at h6; exact h6
    | some b =>
      rw [hρ] at h6
      obtain ⟨arr, ty, g1, g2, g3⟩ := h6
      refine ⟨arr, ty, by rw [hb' b hρ]; exact g1, g2, fun i j c hi hc => ?_⟩
      obtain ⟨v, hv, hr⟩ := g3 i j c hi hc
      exact ⟨v, hv, hr.mono hE.F hF⟩
  | siter s p => obtain ⟨k, g0, g1, g2, g3⟩ := h; exact ⟨k, by rw [hE.ρ id hi]; exact g0, by rw [hb (by simp) k g0]; exact g1, by rw [hE.ω id hi]; exact g2, by rw [hE.σ id hi]; exact g3⟩
  | miter cur left => obtain ⟨k, m, si, se, la, g0, g1, q1, g2, g3⟩ := h; exact ⟨k, m, si, se, la, by rw [hE.ρ id hi]; exact g0, by rw [hb (by simp) k g0]; exact g1, q1.mono hE.F hF, by rw [hE.ω id hi]; exact g2, by rw [hE.σ id hi]; exact g3⟩
  | raw o => obtain ⟨g, k, g0, g1, g2, g3⟩ := h; exact ⟨g, k, by rw [hE.ρ id hi]; exact g0, by rw [hb (by simp) k g0]; exact g1, by rw [hE.ω id hi]; exact g2, by rw [hE.σ id hi]; exact g3⟩
  | map es =>
    obtain ⟨b, mes, clock, g0, g1, g2, g3, g4⟩ := h
    refine ⟨b, mes, clock, by rw [hE.ρ id hi]; exact g0, by rw [hb (by simp) b g0]; exact g1, g2, fun i e he => ?_, g4⟩
    obtain ⟨me, h1, h2, h3⟩ := g3 i e he
    exact ⟨me, h1, h2.mono hE.F hF, h3.mono hE.F hF⟩

theorem live_lt {H : List AObj} {id : Nat} (h : Live H id) : id < H.length := by
  obtain ⟨o, ho, _⟩ := h
  rcases Nat.lt_or_ge id H.length with g | g
  · exact g
  · rw [List.getElem?_eq_none g] at ho; cases ho

theorem get_lt {α : Type} {l : List α} {i : Nat} {x : α} (h : l[i]? = some x) : i < l.length := by
  rcases Nat.lt_or_ge i l.length with g | g
  · exact g
  · rw [List.getElem?_eq_none g] at h; cases h

theorem append_get {α : Type} {l : List α} {x y : α} {i : Nat} (h : (l ++ [x])[i]? = some y) : (i < l.length ∧ l[i]? = some y) ∨ (i = l.length ∧ y = x) := by
  rcases Nat.lt_or_ge i l.length with g | g
  · rw [List.getElem?_append_left g] at h; exact .inl ⟨g, h⟩
  · rw [List.getElem?_append_right g] at h
    have : i - l.length = 0 := by have := get_lt h; simp at this; omega
    rw [this] at h; simp at h; exact .inr ⟨by omega, h.symm⟩

theorem live_append {H : List AObj} {ob : AObj} {i : Nat} (h : Live (H ++ [ob]) i) : (i < H.length ∧ Live H i) ∨ i = H.length := by
  obtain ⟨o, ho, hn⟩ := h
  rcases append_get ho with ⟨g, ho⟩ | ⟨g, _⟩
  · exact .inl ⟨g, o, ho, hn⟩
  · exact .inr g

/-- A new object. -/
theorem Models.newObj (h : Models E0 H0 w0 E s a w) {w' : World} (hs : Same w w') {r : Option Nat} {sg kp om : Nat} {ob : AObj}
    (hr : ∀ b, r = some b → w.heap.size ≤ b ∧ b < w'.heap.size) (hob : ObjRep (E.new r sg kp om) w' s.hp.length ob) :
    Models E0 H0 w0 (E.new r sg kp om) { s with hp := s.hp ++ [ob] } a w' := by
  have hN := h.heap.len
  have hle := E.new_le r sg kp om
  have hF : ∀ b, E.F b → w'.heap[b]? = w.heap[b]? := fun b hb => hs.block b (h.heap.frz b hb)
  have hρn : (E.new r sg kp om).ρ s.hp.length = r := by show (if s.hp.length = E.N then r else _) = _; rw [if_pos hN.symm]
  constructor
  · exact h.size
  · intro t; exact (h.tmps t).mono hle hF
  · refine ⟨by simp [Env.new, hN], ?_, ?_, ?_, ?_, ?_⟩
    · intro id ob' hid
      rcases append_get hid with ⟨g, hid⟩ | ⟨g, e⟩
      · exact (h.heap.obj id ob' hid).mono (by omega) hle hF (fun hne b hb => hs.block b (h.heap.lt id b ⟨ob', hid, hne⟩ hb))
      · subst g; subst e; exact hob
    · intro id b hl hb
      rcases live_append hl with ⟨g, hl⟩ | g
      · rw [hle.ρ id (by omega)] at hb; exact Nat.lt_of_lt_of_le (h.heap.lt id b hl hb) hs.size
      · subst g; rw [hρn] at hb; exact (hr b hb).2
    · intro id b hl hb hF'
      rcases live_append hl with ⟨g, hl⟩ | g
      · rw [hle.ρ id (by omega)] at hb; exact h.heap.fr id b hl hb hF'
      · subst g; rw [hρn] at hb; have := (hr b hb).1; have := h.heap.frz b hF'; omega
    · intro i j b hi hj hbi hbj
      rcases live_append hi with ⟨gi, hi⟩ | gi <;> rcases live_append hj with ⟨gj, hj⟩ | gj
      · rw [hle.ρ i (by omega)] at hbi; rw [hle.ρ j (by omega)] at hbj; exact h.heap.inj i j b hi hj hbi hbj
      · subst gj; rw [hρn] at hbj; rw [hle.ρ i (by omega)] at hbi; have := (hr b hbj).1; have := h.heap.lt i b hi hbi; omega
      · subst gi; rw [hρn] at hbi; rw [hle.ρ j (by omega)] at hbj; have := (hr b hbi).1; have := h.heap.lt j b hj hbj; omega
      · omega
    · intro b hb; exact Nat.lt_of_lt_of_le (h.heap.frz b hb) hs.size
  · exact ⟨h.base.1, by rw [List.length_append]; have := h.base.2; omega⟩
  · intro id hi
    have hb := h.base
    have hi : id < s.base := hi
    obtain ⟨a1, a2, a3, a4, a5⟩ := h.old id hi
    refine ⟨fun hl => ?_, by rw [hle.ρ id (by omega)]; exact a2, by rw [hle.σ id (by omega)]; exact a3, by rw [hle.κ id (by omega)]; exact a4, by rw [hle.ω id (by omega)]; exact a5⟩
    rcases live_append hl with ⟨g, hl⟩ | g
    · exact a1 hl
    · omega
  · intro id b hi hl hb
    rcases live_append hl with ⟨g, hl⟩ | g
    · rw [hle.ρ id (by omega)] at hb; exact h.new id b hi hl hb
    · subst g; rw [hρn] at hb; exact .inl (Nat.le_trans h.keeps.size (hr b hb).1)
  · exact h.F
  · exact h.Fnew
  · exact h.keeps.trans (O' := fun _ => False) hs.keeps (fun _ _ h => h.elim)
  · exact h.laid


end

def Done (P : Program) (o : Oper) (E0 : Env) (H0 : List AObj) (w0 : World) (s' : St) (a : Act) (w : World) : Prop :=
  ∃ r w' E', (execOp a.eval o).run P w = .ok r w' ∧ match r with
    | .value v => Models E0 H0 w0 E' s' (a.put o.dst v) w'
    | .skip => Models E0 H0 w0 E' s' (a.put o.dst Go.undef) w'
    | _ => False

section
variable {E0 : Env} {H0 : List AObj} {w0 : World} {E : Env} {s s' : St} {a : Act} {w : World} {P : Program} {T : TT} {o : Oper}

theorem Done.value (h : Models E0 H0 w0 E s a w) {v : AV} {x : Value} (hs : s.setd o.dst v = some s') (hv : Rep E w v x)
    (hrun : (execOp a.eval o).run P w = .ok (.value x) w) : Done P o E0 H0 w0 s' a w :=
  ⟨_, w, E, hrun, h.setd hs hv⟩

theorem rep_const0 (x : Value) : Rep E w (constAV0 x) x := by
  unfold constAV0
  split
  all_goals first
    | exact .fz _ _ (.bool _) | exact .fz _ _ (.int _ _) | exact .fz _ _ (.str _) | exact .fz _ _ .nilptr | exact .fz _ _ .nilmap
    | exact .fz _ _ .nilsl | exact .fz _ _ .nilif | exact .fz _ _ .nilfn | exact .undef _

theorem getD_eq_default (l : List Value) (i : Nat) (h : i < l.length) (d d' : Value) : l.getD i d = l.getD i d' := by
  simp [List.getD, List.getElem?_eq_getElem h]

theorem rep_const (x : Value) : Rep E w (constAV x) x := by
  unfold constAV
  split
  · rename_i cs
    have := Rep.agg (E := E) (w := w) (cs.toList.map constAV0) cs.toList (by simp) (fun i c hc => by
      obtain ⟨v, hv, rfl⟩ := getElem?_map_some hc
      rw [List.getD, hv]
      exact rep_const0 v)
    simpa using this
  · exact rep_const0 _

theorem Models.ev (h : Models E0 H0 w0 E s a w) (x : Operand) : Rep E w (s.ev x) (a.eval x) := by
  cases x with
  | tmp t => exact h.tmps t
  | const v => exact rep_const v
  | global g =>
    rcases h.glob g with q | q
    · show Rep E w (look s.gl g) _
      rw [q]; exact .undef _
    · exact .fz _ _ q.1
  | func f => exact .clos f [] [] [] [] rfl rfl (by simp) (by simp)

/-- A box laid. -/
theorem Models.newBox (h : Models E0 H0 w0 E s a w) {d : Option Nat} {cs : List AV} (hs : s.newBox d cs = some s') (arr : Array Value) (ty : TypeId)
    (hn : arr.size = cs.length) (hr : ∀ (j : Nat) c, cs[j]? = some c → isCell c = true ∧ ∃ v, arr[j]? = some v ∧ Rep E w c v) :
    ∃ E', Models E0 H0 w0 E' s' (a.put d (.pointer (some ⟨w.heap.size, 0, none⟩))) (w.alloc (.cells arr ty)) := by
  cases d with
  | none => simp [St.newBox] at hs
  | some d =>
    have hs2 : ({ s with hp := s.hp ++ [AObj.var cs] } : St).setd (some d) (.hptr s.hp.length 0 0) = some s' := hs
    have hN := h.heap.len
    have hle := E.new_le (some w.heap.size) cs.length 1 0
    have hF : ∀ b, E.F b → (w.alloc (.cells arr ty)).heap[b]? = w.heap[b]? := fun b hb => (Same.alloc w _).block b (h.heap.frz b hb)
    have hm := h.newObj (Same.alloc w (.cells arr ty)) (r := some w.heap.size) (sg := cs.length) (kp := 1) (om := 0) (ob := .var cs) (fun b hb => by cases hb; exact ⟨Nat.le_refl _, by simp⟩)
      ⟨if_pos hN.symm, w.heap.size, arr, ty, if_pos hN.symm, heap_alloc_new w _, hn, fun j c hj => by
        obtain ⟨g1, v, g2, g3⟩ := hr j c hj
        exact ⟨g1, v, g2, g3.mono hle hF⟩⟩
    refine ⟨_, hm.setd hs2 ?_⟩
    have := Rep.hptr (E := E.new (some w.heap.size) cs.length 1 0) (w := w.alloc (.cells arr ty)) s.hp.length 0 0 w.heap.size (by show _ < E.N + 1; omega) (if_pos hN.symm)
    have hω : (E.new (some w.heap.size) cs.length 1 0).ω s.hp.length = 0 := if_pos hN.symm
    rw [hω] at this
    simpa using this

/-- What stands in memory behind an address. -/
theorem Models.mem (h : Models E0 H0 w0 E s a w) {v : AV} {x : Value} (hx : Rep E w v x) {m : List AV × Prop} (hm : s.mem v = some m) (hc : m.2) :
    ∃ b o, x = .pointer (some ⟨b, o, none⟩) ∧ ∀ (j : Nat) c, m.1[j]? = some c → isCell c = true ∧ ∃ u, w.cell? ⟨b, o + j, none⟩ = some u ∧ Rep E w c u := by
  cases v with
  | fptr cs =>
    simp only [St.mem, Option.some.injEq] at hm; subst hm
    cases hx with
    | fz _ _ hx =>
      cases hx with
      | fptr _ b o vs hF hcell hf hr =>
        refine ⟨b, o, rfl, fun j c hj => ⟨?_, vs j, hcell j c hj, .fz _ _ (hr j c hj)⟩⟩
        have := hf j c hj
        cases c <;> simp_all [Go.Av.isFree, isCell]
  | hptr id idx off =>
    simp only [St.mem] at hm
    split at hm
    · rename_i sz n row hid
      simp only [Option.some.injEq] at hm; subst hm
      obtain ⟨h1, h2, h3, h4, h5, h6⟩ := h.heap.obj id _ hid
      cases hx with
      | fz _ _ hx => cases hx
      | hptr _ _ _ b _ hb =>
        rw [hb] at h6
        obtain ⟨arr, ty, g1, g2, g3⟩ := h6
        refine ⟨b, _, rfl, fun j c hj => ?_⟩
        simp only [List.getElem?_drop] at hj
        obtain ⟨u, hu, hr⟩ := g3 idx (off + j) c hc hj
        refine ⟨?_, u, ?_, .fz _ _ hr⟩
        · have := hr.isFree
          cases c <;> simp_all [Go.Av.isFree, isCell]
        · rw [h1]
          simp only [World.cell?, g1]
          rw [← hu]; simp [Nat.add_assoc]
    · rename_i cs hid
      cases hb0 : Nat.beq idx 0 with
      | false => rw [hb0] at hm; cases hm
      | true =>
        rw [hb0, cond_true, Option.some.injEq] at hm
        subst hm
        have hi0 := Nat.eq_of_beq_eq_true hb0
        subst hi0
        obtain ⟨h0, b, arr, ty, h1, h2, h3, h4⟩ := h.heap.obj id _ hid
        cases hx with
        | fz _ _ hx => cases hx
        | hptr _ _ _ b' _ hb' =>
          rw [h1] at hb'; cases hb'
          refine ⟨b, _, rfl, fun j c hj => ?_⟩
          simp only [List.getElem?_drop] at hj
          obtain ⟨g1, u, g2, g3⟩ := h4 _ c hj
          exact ⟨g1, u, by simp [World.cell?, h2, h0, g2], g3⟩
    · simp at hm
  | _ => simp [St.mem] at hm

theorem listOf {n : Nat} {R : Nat → Value → Prop} (h : ∀ j, j < n → ∃ v, R j v) : ∃ vs : List Value, vs.length = n ∧ ∀ (j : Nat) v, vs[j]? = some v → R j v := by
  induction n with
  | zero => exact ⟨[], rfl, by simp⟩
  | succ n ih =>
    obtain ⟨vs, h1, h2⟩ := ih (fun j hj => h j (by omega))
    obtain ⟨v, hv⟩ := h n (by omega)
    refine ⟨vs ++ [v], by simp [h1], fun j u hu => ?_⟩
    by_cases hj : j < n
    · rw [List.getElem?_append_left (by omega)] at hu; exact h2 j u hu
    · rw [List.getElem?_append_right (by omega)] at hu
      have : j = n := by
        have : j - vs.length < 1 := by
          rcases Nat.lt_or_ge (j - vs.length) 1 with h | h
          · exact h
          · rw [List.getElem?_eq_none (by simpa using h)] at hu; simp at hu
        omega
      subst this
      simp [h1] at hu; subst hu; exact hv

theorem isAgg_run {t : TypeId} {ts : TS} {d : TypeDesc} (hu : P.underlying t = some d) (hk : KOk d ts.kind) : (isAgg t).run P w = .ok ts.isAgg w := by
  simp only [isAgg, Sem.run_bind, run_underlying hu, Result.andThen]
  unfold TS.isAgg
  cases hkk : ts.kind with
  | struct fs => rw [hkk] at hk; obtain ⟨f, rfl, _⟩ := hk; rfl
  | array n e => rw [hkk] at hk; cases hk; rfl
  | plain =>
    rw [hkk] at hk
    cases d <;> first | rfl | (exact (hk trivial).elim)
  | _ => rw [hkk] at hk; cases hk; rfl

theorem isAgg_struct {ts : TS} : ts.isAgg = true ∨ ts.isAgg = false := by cases ts.isAgg <;> simp

theorem addr_add (b o n : Nat) : (⟨b, o, none⟩ : Addr).add n = ⟨b, o + n, none⟩ := by unfold Addr.add; split <;> simp_all

theorem opLoad_sound (hT : TTOk P T) (h : Models E0 H0 w0 E s a w) {t : TypeId} {x : Operand} (ho : o.op = .load t x)
    (hf : opLoad T s o.dst t (s.ev x) = some s') (hc : s'.cond) : s.cond ∧ Done P o E0 H0 w0 s' a w := by
  simp only [opLoad, Option.bind_eq_some_iff] at hf
  obtain ⟨ts, hts, m, hm, hf⟩ := hf
  cases hle : (Nat.ble 1 ts.size && Nat.ble ts.size (m.1.take ts.size).length) with
  | false => rw [hle] at hf; cases hf
  | true =>
    rw [hle, cond_true] at hf
    rw [Bool.and_eq_true] at hle
    have hz : 0 < ts.size := Nat.le_of_ble_eq_true hle.1
    have hlen : (m.1.take ts.size).length = ts.size := by
      have := Nat.le_of_ble_eq_true hle.2
      have h2 := List.length_take_le ts.size m.1
      omega
    have hcc : s.cond ∧ m.2 := by rw [(setd_some hf).2.1] at hc; exact hc
    obtain ⟨b, off, hx, hcell⟩ := h.mem (h.ev x) hm hcc.2
    obtain ⟨_, ⟨i, d, z, hi, hu, hsz, _, hk, _⟩⟩ := hT t ts hts
    obtain ⟨vs, hvl, hv⟩ := listOf (n := ts.size) (R := fun j v => w.cell? ⟨b, off + j, none⟩ = some v ∧ ∀ c, m.1[j]? = some c → Rep E w c v) (fun j hj => by
      obtain ⟨c, hcj⟩ : ∃ c, m.1[j]? = some c := by
        have : j < m.1.length := by rw [List.length_take] at hlen; omega
        exact ⟨m.1[j], List.getElem?_eq_getElem this⟩
      obtain ⟨_, u, hu1, hu2⟩ := hcell j c hcj
      exact ⟨u, hu1, fun c' hc' => by rw [hcj] at hc'; cases hc'; exact hu2⟩)
    refine ⟨hcc.1, ?_⟩
    have hload : (loadCells ⟨b, off, none⟩ ts.size).run P w = .ok vs.toArray w := by
      have := run_loadCells_list (P := P) w ⟨b, off, none⟩ vs (fun j v hj => by rw [addr_add]; exact (hv j v hj).1)
      rw [hvl] at this; exact this
    cases hagg : ts.isAgg with
    | true =>
      refine Done.value (x := .agg vs.toArray) (h.cond _) hf ?_ ?_
      · rw [hagg]
        refine Rep.agg _ vs (by rw [hlen, hvl]) fun j c hj => ?_
        have hjl : j < ts.size := by
          rcases Nat.lt_or_ge j ts.size with g | g
          · exact g
          · rw [List.getElem?_eq_none (by omega)] at hj; simp at hj
        have hj' : m.1[j]? = some c := by rw [List.getElem?_take] at hj; simpa [hjl] using hj
        rw [List.getD, List.getElem?_eq_getElem (by omega)]
        exact (hv j _ (List.getElem?_eq_getElem (by omega))).2 c hj'
      · simp [execOp, ho, hx, Instr.loadAt, Instr.sureAddr, loadVar, isAgg_run hu hk, hagg, sizeOf, typeInfo, hi, hsz, hload]
    | false =>
      refine Done.value (x := vs.getD 0 default) (h.cond _) hf ?_ ?_
      · rw [hagg]
        show Rep E w ((m.1.take ts.size).headD .undef) _
        cases hm1 : m.1 with
        | nil => rw [hm1] at hlen; simp at hlen; omega
        | cons c rest =>
          cases hts2 : ts.size with
          | zero => omega
          | succ k =>
            show Rep E w c _
            rw [List.getD, List.getElem?_eq_getElem (by omega)]
            exact (hv 0 _ (List.getElem?_eq_getElem (by omega))).2 c (by rw [hm1]; rfl)
      · have h0 := (hv 0 (vs.getD 0 default) (by rw [List.getD, List.getElem?_eq_getElem (by omega)]; rfl)).1
        rw [Nat.add_zero] at h0
        have hl : (load ⟨b, off, none⟩).run P w = .ok (vs.getD 0 default) w := by rw [run_load, h0]
        simp only [execOp, ho, hx, Instr.loadAt, Instr.sureAddr, loadVar, Sem.run_bind, isAgg_run hu hk, hagg, Result.andThen, Sem.run_pure, Bool.false_eq_true, if_false, hl]

end
end Go.Av

namespace Go.Av
variable [Drawn]

section
variable {E0 : Env} {H0 : List AObj} {w0 : World} {E : Env} {s s' : St} {a : Act} {w : World} {P : Program} {T : TT} {o : Oper}

theorem need_setd {c : Prop} {d : Option Nat} {v : AV} (hf : (s.need c).setd d v = some s') (hc : s'.cond) : s.cond ∧ c := by rw [(setd_some hf).2.1] at hc; exact hc

theorem cond_setd {d : Option Nat} {v : AV} (hf : s.setd d v = some s') (hc : s'.cond) : s.cond := by rw [(setd_some hf).2.1] at hc; exact hc

theorem opMove_sound (h : Models E0 H0 w0 E s a w) {x : Operand} (ho : o.op = .move x ∨ o.op = .assign x)
    (hf : s.setd o.dst (s.ev x) = some s') (hc : s'.cond) : s.cond ∧ Done P o E0 H0 w0 s' a w := by
  refine ⟨cond_setd hf hc, Done.value h hf (h.ev x) ?_⟩
  rcases ho with ho | ho <;> simp [execOp, ho]

theorem Rep.bool' {b : Bool} {x : Value} (h : Rep E w (.bool b) x) : x = .bool b := by
  cases h with | fz _ _ h => cases h; rfl
theorem Rep.int' {k : IntKind} {n : Int} {x : Value} (h : Rep E w (.int k n) x) : x = .int k n := by
  cases h with | fz _ _ h => cases h; rfl
theorem Rep.str' {b : ByteArray} {x : Value} (h : Rep E w (.str b) x) : x = .string b := by
  cases h with | fz _ _ h => cases h; rfl
theorem Rep.mk_bool (b : Bool) : Rep E w (.bool b) (.bool b) := .fz _ _ (.bool b)
theorem Rep.mk_int (k : IntKind) (n : Int) : Rep E w (.int k n) (.int k n) := .fz _ _ (.int k n)
theorem Rep.mk_str (b : ByteArray) : Rep E w (.str b) (.string b) := .fz _ _ (.str b)

theorem opPick_sound (h : Models E0 H0 w0 E s a w) {c x y : Operand} (ho : o.op = .pick c x y) {b : Bool} (hb : s.ev c = .bool b)
    (hf : s.setd o.dst (bif b then s.ev x else s.ev y) = some s') (hc : s'.cond) : s.cond ∧ Done P o E0 H0 w0 s' a w := by
  have h1 := h.ev c
  rw [hb] at h1
  refine ⟨cond_setd hf hc, ?_⟩
  cases b with
  | true => exact Done.value h hf (h.ev x) (by simp [execOp, ho, h1.bool', asBool])
  | false => exact Done.value h hf (h.ev y) (by simp [execOp, ho, h1.bool', asBool])

theorem newBox_cond {d : Option Nat} {cs : List AV} (hs : s.newBox d cs = some s') : s'.cond = s.cond := by
  cases d with
  | none => simp [St.newBox] at hs
  | some d =>
    simp only [St.newBox] at hs
    cases hb : Nat.blt d s.n with
    | false => simp [hb] at hs
    | true => simp only [hb, cond_true, Option.some.injEq] at hs; subst hs; rfl

theorem isFree_isCell {c : AV} (h : isFree c = true) : isCell c = true := by cases c <;> simp_all [isFree, isCell]

theorem opAlloc_sound (hT : TTOk P T) (h : Models E0 H0 w0 E s a w) {t : TypeId} (ho : o.op = .alloc t) {ts : TS} (hts : T t = some ts)
    (hf : s.newBox o.dst ts.zero = some s') (hc : s'.cond) : s.cond ∧ Done P o E0 H0 w0 s' a w := by
  refine ⟨by rw [newBox_cond hf] at hc; exact hc, ?_⟩
  obtain ⟨_, ⟨i, d, z, hi, hu, hsz, hby, hk, hz, hzl, hzs, hzr⟩⟩ := hT t ts hts
  obtain ⟨E', hm⟩ := h.newBox hf z.cells t hzl (fun j c hj => by
    obtain ⟨g1, g2⟩ := hzr j c hj
    have hj' : j < z.cells.size := by
      rw [hzl]
      rcases Nat.lt_or_ge j ts.zero.length with g | g
      · exact g
      · rw [List.getElem?_eq_none g] at hj; simp at hj
    refine ⟨isFree_isCell g1, z.cells[j], Array.getElem?_eq_getElem hj', .fz _ _ ?_⟩
    have := (g2 E.F w).1
    simpa [Array.getD, hj'] using this)
  exact ⟨.value (.pointer (some ⟨w.heap.size, 0, none⟩)), w.alloc (.cells z.cells t), E', by simp [execOp, ho, Instr.alloc, zeroValue, typeInfo, hi, hz, newVar, newRow], hm⟩

theorem cells_agg (vs : List Value) : (Value.agg vs.toArray).cells = vs.toArray := rfl

theorem cellsOf_rep {v : AV} {x : Value} (h : Rep E w v x) (hall : (cellsOf v).all isCell = true) :
    x.cells.size = (cellsOf v).length ∧ ∀ (j : Nat) c, (cellsOf v)[j]? = some c → isCell c = true ∧ ∃ u, x.cells[j]? = some u ∧ Rep E w c u := by
  have one : ∀ v : AV, (∀ cs, v ≠ .agg cs) → Rep E w v x → (cellsOf v).all isCell = true → x.cells.size = (cellsOf v).length ∧ ∀ (j : Nat) c, (cellsOf v)[j]? = some c → isCell c = true ∧ ∃ u, x.cells[j]? = some u ∧ Rep E w c u := by
    intro v hv h hall
    have hcv : cellsOf v = [v] := by cases v <;> first | rfl | exact absurd rfl (hv _)
    rw [hcv] at hall ⊢
    simp only [List.all_cons, List.all_nil, Bool.and_true] at hall
    have hr : Rep E w v x := h
    have hcx : x.cells = #[x] := by
      have := hr.oneCell hall
      cases x <;> first | rfl | simp [Value.oneCell'] at this
    rw [hcx]
    refine ⟨rfl, fun j c hj => ?_⟩
    cases j with
    | zero => simp at hj; subst hj; exact ⟨hall, x, rfl, hr⟩
    | succ j => simp at hj
  cases v with
  | agg cs =>
    cases h with
    | fz _ _ h => cases h
    | agg _ vs hn hr =>
      refine ⟨by simpa [cellsOf, cells_agg] using hn, fun j c hj => ?_⟩
      have hj' : j < vs.length := by
        rw [hn]
        rcases Nat.lt_or_ge j cs.length with g | g
        · exact g
        · simp only [cellsOf] at hj; rw [List.getElem?_eq_none g] at hj; simp at hj
      refine ⟨List.all_eq_true.1 hall c (List.mem_of_getElem? hj), vs[j], by simp [cells_agg, hj'], ?_⟩
      have := hr j c hj
      simpa [List.getD, hj'] using this
  | _ => exact one _ (fun _ => by simp) h hall

theorem opBox_sound (h : Models E0 H0 w0 E s a w) {t : TypeId} {x : Operand} (ho : o.op = .box t x)
    (hall : (cellsOf (s.ev x)).all isCell = true) (hf : s.newBox o.dst (cellsOf (s.ev x)) = some s') (hc : s'.cond) : s.cond ∧ Done P o E0 H0 w0 s' a w := by
  refine ⟨by rw [newBox_cond hf] at hc; exact hc, ?_⟩
  obtain ⟨h1, h2⟩ := cellsOf_rep (h.ev x) hall
  obtain ⟨E', hm⟩ := h.newBox hf (a.eval x).cells t h1 h2
  exact ⟨.value (.pointer (some ⟨w.heap.size, 0, none⟩)), w.alloc (.cells (a.eval x).cells t), E', by simp [execOp, ho, Instr.box, newVar, newRow], hm⟩

/-! ### addresses and parts -/

theorem fields_get {fields : Array Field} {fs : List (Nat × TypeId)} (h : fields.toList.map (fun f => (f.offset, f.type)) = fs) {f : Nat} {p : Nat × TypeId} (hp : fs[f]? = some p) :
    ∃ fd, fields[f]? = some fd ∧ fd.offset = p.1 ∧ fd.type = p.2 := by
  subst h
  obtain ⟨fd, h1, rfl⟩ := getElem?_map_some hp
  exact ⟨fd, by simpa using h1, rfl, rfl⟩

theorem opFieldAddr_sound (hT : TTOk P T) (h : Models E0 H0 w0 E s a w) {t : TypeId} {x : Operand} {f : Nat} (ho : o.op = .fieldAddr t x f)
    (hf : opFieldAddr T s o.dst t (s.ev x) f = some s') (hc : s'.cond) : s.cond ∧ Done P o E0 H0 w0 s' a w := by
  simp only [opFieldAddr, Option.bind_eq_some_iff] at hf
  obtain ⟨ts, hts, hf⟩ := hf
  obtain ⟨_, ⟨i, d, z, hi, hu, hsz, hby, hk, _⟩⟩ := hT t ts hts
  cases hkk : ts.kind with
  | struct fs =>
    rw [hkk] at hk hf
    simp only [Option.bind_eq_some_iff] at hf
    obtain ⟨p, hp, tf, htf, hf⟩ := hf
    obtain ⟨fields, rfl, hfs⟩ := hk
    obtain ⟨fd, hfd, ho1, ho2⟩ := fields_get hfs hp
    obtain ⟨_, ⟨fi, _, _, hfi, _, hfsz, _⟩⟩ := hT p.2 tf htf
    cases hle : Nat.ble 1 tf.size with
    | false => rw [hle] at hf; cases hf
    | true =>
      rw [hle, cond_true] at hf
      have hne : tf.size ≠ 0 := by have := Nat.le_of_ble_eq_true hle; omega
      have run : ∀ b off, a.eval x = .pointer (some ⟨b, off, none⟩) → (execOp a.eval o).run P w = .ok (.value (.pointer (some ⟨b, off + p.1, none⟩))) w := by
        intro b off hx
        simp [execOp, ho, hx, Instr.fieldAt, Instr.sureAddr, run_underlying hu, hfd, fieldPlace, ho2, sizeOf, typeInfo, hfi, hfsz, hne, ho1, addr_add]
      have hx := h.ev x
      cases hv : s.ev x with
      | fptr cs =>
        rw [hv] at hf hx
        refine ⟨cond_setd hf hc, ?_⟩
        cases hx with
        | fz _ _ hx =>
          generalize hax : a.eval x = ax at hx
          cases hx with
          | fptr _ b off vs hF hcell hfr hr =>
            refine Done.value h hf ((.fz _ _ (.fptr _ b (off + p.1) (fun j => vs (p.1 + j)) hF ?_ ?_ ?_))) (run b off hax)
            · intro j c hj; rw [List.getElem?_drop] at hj; rw [Nat.add_assoc]; exact hcell _ c hj
            · intro j c hj; rw [List.getElem?_drop] at hj; exact hfr _ c hj
            · intro j c hj; rw [List.getElem?_drop] at hj; exact hr _ c hj
      | hptr id idx off =>
        rw [hv] at hf hx
        refine ⟨cond_setd hf hc, ?_⟩
        generalize hax : a.eval x = ax at hx
        cases hx with
        | fz _ _ hx => cases hx
        | hptr _ _ _ b hi' hb =>
          exact Done.value h hf ((.hptr id idx (off + p.1) b hi' hb)) (by rw [run b _ hax, Nat.add_assoc])
      | _ => rw [hv] at hf; cases hf
  | _ => rw [hkk] at hf; cases hf

/-- A part of an aggregate. -/
theorem part_run {t : TypeId} {ts : TS} (hT : TOk P t ts) (cs : Array Value) (off : Nat) (h1 : ts.isAgg = false → off < cs.size) :
    (part t cs off).run P w = .ok (if ts.isAgg = true then .agg (cs.extract off (off + ts.size)) else cs.getD off default) w := by
  obtain ⟨_, i, d, z, hi, hu, hsz, hby, hk, _⟩ := hT
  simp only [part, Sem.run_bind, isAgg_run hu hk, Result.andThen]
  cases hagg : ts.isAgg with
  | true => simp [sizeOf, typeInfo, hi, hsz]
  | false => simp [h1 hagg, Array.getD]

theorem opField_sound (hT : TTOk P T) (h : Models E0 H0 w0 E s a w) {t : TypeId} {x : Operand} {f : Nat} (ho : o.op = .field t x f)
    (hf : opField T s o.dst t (s.ev x) f = some s') (hc : s'.cond) : s.cond ∧ Done P o E0 H0 w0 s' a w := by
  simp only [opField, Option.bind_eq_some_iff] at hf
  obtain ⟨ts, hts, hf⟩ := hf
  obtain ⟨_, ⟨i, d, z, hi, hu, hsz, hby, hk, _⟩⟩ := hT t ts hts
  cases hkk : ts.kind with
  | struct fs =>
    rw [hkk] at hk hf
    cases hv : s.ev x with
    | agg cs =>
      rw [hv] at hf
      simp only [Option.bind_eq_some_iff] at hf
      obtain ⟨p, hp, tf, htf, hf⟩ := hf
      cases hb : (tf.isAgg || Nat.beq tf.size 1) with
      | false => rw [hb] at hf; cases hf
      | true =>
        rw [hb, cond_true] at hf
        simp only [Option.bind_eq_some_iff] at hf
        obtain ⟨v, hv2, hf⟩ := hf
        simp only [partA] at hv2
        cases hle : Nat.ble (p.1 + tf.size) cs.length with
        | false => rw [hle] at hv2; cases hv2
        | true =>
          rw [hle, cond_true, Option.some.injEq] at hv2
          subst hv2
          have hlen := Nat.le_of_ble_eq_true hle
          obtain ⟨fields, rfl, hfs⟩ := hk
          obtain ⟨fd, hfd, ho1, ho2⟩ := fields_get hfs hp
          have hx := h.ev x
          rw [hv] at hx
          generalize hax : a.eval x = ax at hx
          cases hx with
          | fz _ _ hx => cases hx
          | agg _ vs hn hr =>
            have hsz1 : tf.isAgg = false → tf.size = 1 := fun hh => by
              rw [hh, Bool.false_or] at hb; exact Nat.eq_of_beq_eq_true hb
            have hpart := part_run (w := w) (hT p.2 tf htf) vs.toArray p.1 (fun hh => by have := hsz1 hh; simp; omega)
            refine ⟨cond_setd hf hc, Done.value (x := if tf.isAgg = true then .agg (vs.toArray.extract p.1 (p.1 + tf.size)) else vs.toArray.getD p.1 default) h hf (?_) ?_⟩
            · cases hagg : tf.isAgg with
              | true =>
                simp only [if_true]
                have e : (vs.toArray.extract p.1 (p.1 + tf.size)) = ((vs.drop p.1).take tf.size).toArray := by
                  simp [List.extract_toArray, List.extract_eq_take_drop]
                rw [e]
                refine Rep.agg _ _ (by simp; omega) fun j c hj => ?_
                have hj2 : j < tf.size ∧ cs[p.1 + j]? = some c := by
                  rw [List.getElem?_take] at hj
                  split at hj
                  · rw [List.getElem?_drop] at hj; exact ⟨by assumption, hj⟩
                  · cases hj
                have := hr _ c hj2.2
                simp only [List.getD, List.getElem?_take, hj2.1, if_true, List.getElem?_drop] at this ⊢
                exact this
              | false =>
                simp only [Bool.false_eq_true, if_false]
                have h1 := hsz1 hagg
                have hpl : p.1 < cs.length := by omega
                have := hr p.1 cs[p.1] (List.getElem?_eq_getElem hpl)
                have e2 : ofCells false ((cs.drop p.1).take tf.size) = cs[p.1] := by
                  rw [h1]
                  show ((cs.drop p.1).take 1).headD .undef = _
                  rw [List.drop_eq_getElem_cons hpl]; rfl
                rw [e2]
                have e3 : vs.toArray.getD p.1 default = vs.getD p.1 default := by
                  simp [Array.getD, List.getD, show p.1 < vs.length by omega]
                rw [e3]; exact this
            · simp [execOp, ho, hax, Instr.field, run_underlying hu, hfd, asAgg, ho1, ho2, hpart]
    | _ => rw [hv] at hf; cases hf
  | _ => rw [hkk] at hf; cases hf

end
end Go.Av

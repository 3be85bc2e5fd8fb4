/- The Av framework: words of the models. No law is proved here. -/
import Derived.Test.YtgbgmijighbfbaaGv25
set_option linter.unusedSimpArgs false
set_option linter.unusedVariables false
set_option linter.unusedSectionVars false
namespace Go.Av

abbrev Str := ByteArray

instance : LawfulBEq ByteArray where
  rfl := by intro a; rw [bytes_beq]; simp
  eq_of_beq := by intro a b h; rw [bytes_beq] at h; simpa using h

def cI (k : IntKind) (n : Int) : List AV := [.int k n]
def cB (b : Bool) : List AV := [.bool b]
def cS (s : Str) : List AV := [.str s]
def cL {α : Type} (c : α → List AV) (l : List α) : List AV := [aL c l]

/-- An element at an integer. -/
def atI {α : Type} (l : List α) (k : Int) : Option α := if 0 ≤ k then l[k.toNat]? else none

theorem atI_some {α : Type} {l : List α} {k : Int} {x : α} (h : atI l k = some x) : 0 ≤ k ∧ k < (l.length : Int) ∧ l[k.toNat]? = some x := by
  unfold atI at h
  split at h
  · have := get_lt h; exact ⟨by assumption, by omega, h⟩
  · cases h

theorem getElem_of {α : Type} {l : List α} {i : Nat} {x : α} (h : l[i]? = some x) : ∀ hq : i < l.length, l[i] = x := fun hq => by
  rw [List.getElem?_eq_getElem hq] at h; exact Option.some.inj h

theorem obind {α β : Type} {o : Option α} {f : α → Option β} {r : β} (h : o.bind f = some r) : ∃ x, o = some x ∧ f x = some r := by
  cases o with
  | none => cases h
  | some x => exact ⟨x, rfl, h⟩

theorem oguard {α : Type} {p : Prop} [Decidable p] {o : Option α} {r : α} (h : (if p then o else none) = some r) : p ∧ o = some r := by
  split at h
  · exact ⟨by assumption, h⟩
  · cases h

theorem atI_byte {b : ByteArray} {k : Int} {x : UInt8} (h : atI b.data.toList k = some x) : 0 ≤ k ∧ k < (b.size : Int) ∧ b.data.toList[k.toNat]? = some x := by
  have := atI_some h
  have e : b.data.toList.length = b.size := by rw [Array.length_toList]; rfl
  rwa [e] at this

section
variable {α β : Type} [BEq α]
def mGet : List (α × β) → α → Option β
  | [], _ => none
  | p :: r, k => if (k == p.1) = true then some p.2 else mGet r k
def mPut : List (α × β) → α → β → List (α × β)
  | [], k, v => [(k, v)]
  | p :: r, k, v => if (k == p.1) = true then (k, v) :: r else p :: mPut r k v
end

/-- A struct as a map's key. -/
def pS {α : Type} (c : α → List AV) (x : α) : AV := .agg (c x)

def mAV {α β : Type} (c : α → AV) (d : β → List AV) (m : List (α × β)) : List (AV × AV) := m.map fun p => (c p.1, (d p.2).headD .undef)

theorem mAV_length {α β : Type} (c : α → AV) (d : β → List AV) (m : List (α × β)) : (mAV c d m).length = m.length := by simp [mAV]
theorem mAV_nil {α β : Type} (c : α → AV) (d : β → List AV) : mAV c d [] = [] := rfl

section
variable {α β : Type} [BEq α]
theorem findA_gen (c : α → AV) (d : β → List AV) (hs : ∀ a b, sameKey (c a) (c b) = some (a == b)) (k : α) : ∀ m : List (α × β), findA (c k) (mAV c d m) = some ((mGet m k).map fun v => (d v).headD .undef)
  | [] => rfl
  | p :: r => by
    have ih := findA_gen c d hs k r
    simp only [mAV, List.map_cons, findA, hs, mGet]
    cases h : (k == p.1) with
    | true => simp
    | false => simpa [mAV] using ih

theorem putA_gen (c : α → AV) (d : β → List AV) (hs : ∀ a b, sameKey (c a) (c b) = some (a == b)) (k : α) (v : β) : ∀ m : List (α × β), putA (c k) ((d v).headD .undef) (mAV c d m) = mAV c d (mPut m k v)
  | [] => rfl
  | p :: r => by
    have ih := putA_gen c d hs k v r
    simp only [mAV, List.map_cons, putA, hs, mPut]
    cases h : (k == p.1) with
    | true => simp
    | false => simpa [mAV] using ih
end

theorem same_int (kk : IntKind) (a b : Int) : sameKey (.int kk a) (.int kk b) = some (a == b) := by simp [sameKey]
theorem same_str (a b : Str) : sameKey (.str a) (.str b) = some (a == b) := rfl

theorem findA_int {β : Type} (d : β → List AV) (kk : IntKind) (k : Int) (m : List (Int × β)) : findA (.int kk k) (mAV (AV.int kk) d m) = some ((mGet m k).map fun v => (d v).headD .undef) := findA_gen (AV.int kk) d (same_int kk) k m
theorem findA_str {β : Type} (d : β → List AV) (k : Str) (m : List (Str × β)) : findA (.str k) (mAV AV.str d m) = some ((mGet m k).map fun v => (d v).headD .undef) := findA_gen AV.str d same_str k m
theorem putA_strB (k : Str) (v : Bool) (m : List (Str × Bool)) : putA (.str k) (.bool v) (mAV AV.str cB m) = mAV AV.str cB (mPut m k v) := putA_gen AV.str cB same_str k v m
theorem putA_strI (kk : IntKind) (k : Str) (v : Int) (m : List (Str × Int)) : putA (.str k) (.int kk v) (mAV AV.str (cI kk) m) = mAV AV.str (cI kk) (mPut m k v) := putA_gen AV.str (cI kk) same_str k v m
theorem putA_intB (kk : IntKind) (k : Int) (v : Bool) (m : List (Int × Bool)) : putA (.int kk k) (.bool v) (mAV (AV.int kk) cB m) = mAV (AV.int kk) cB (mPut m k v) := putA_gen (AV.int kk) cB (same_int kk) k v m
theorem putA_intI (kk kv : IntKind) (k : Int) (v : Int) (m : List (Int × Int)) : putA (.int kk k) (.int kv v) (mAV (AV.int kk) (cI kv) m) = mAV (AV.int kk) (cI kv) (mPut m k v) := putA_gen (AV.int kk) (cI kv) (same_int kk) k v m

theorem ObjLe.map2 {hp : List AObj} {L : List (Option Nat)} {base i id : Nat} {es es' : List (AV × AV)} (h1 : L[i]? = some (some id)) (h2 : hp[id]? = some (.map es')) (h : es' = es) : ObjLe hp L base i (.map es) := by subst h; exact .map' h1 h2

theorem ObjLe.slot' {hp : List AObj} {L : List (Option Nat)} {base i : Nat} (h : L[i]? = some none) : ObjLe hp L base i .slot := h

/-! ### arrays as data -/
def cA1 {α : Type} (c : α → List AV) (x : α) : List AV := c x
def cA2 {α : Type} (c : α → List AV) (x : α × α) : List AV := c x.1 ++ c x.2
def cA3 {α : Type} (c : α → List AV) (x : α × α × α) : List AV := c x.1 ++ (c x.2.1 ++ c x.2.2)
def cA4 {α : Type} (c : α → List AV) (x : α × α × α × α) : List AV := c x.1 ++ (c x.2.1 ++ (c x.2.2.1 ++ c x.2.2.2))

theorem next_mk {α : Type} {S : α → St} {I : α → Prop} {s : St} (y : α) (h : I y) (hr : Reloc s (S y)) : ∃ y, I y ∧ Reloc s (S y) := ⟨y, h, hr⟩

section
variable {P : Program} {T : TT} {own : Nat → Bool}

/-- A call within a region: the arguments restated. -/
theorem regv_call2 {ops : Array Oper} {o : Oper} {os : List Oper} {K : St → Prop} {s s' : St} {c : Call} {f : Operand} {g : FuncId} {ags : List AV} {p1 : List AV} {p : List AV × Prop × Bool} {r : AV} {H' : List AObj}
    (hc : Con P g p1 r H') (ho : o.op = .call c) (hcal : c.callee = .value f) (hg : guardA ops s o = some true) (hcl : calleeA s f c.args.toList = some (g, ags)) (hp : toArgs s.hp ags = some p)
    (he : p.1 = p1 ∨ All2 (AvLe [] [] 0) p.1 p1) (hpc : p.2.1)
    (hl : p.2.2 = true → H' = [] ∧ isScalar r = true) (hs : ({ s with hp := s.hp ++ H'.map (objShift s.hp.length), cond := True } : St).setd o.dst (shift s.hp.length r) = some s') (hk : regv P T own ops os K s') : regv P T own ops (o :: os) K s := by
  obtain ⟨p2, pc, pl⟩ := p
  have hc' : Con P g p2 r H' := by
    rcases he with he | he
    · simp only at he; subst he; exact hc
    · exact hc.args he
  exact regv_call hc' ho hcal hg hcl hp hpc hl hs hk

end
end Go.Av
namespace Go.Av

/-- A test for nil: a list that is empty may be nil or not; both ways must agree. -/
def isnilM {α β : Type} [DecidableEq β] (l : List α) (A B : Option β) : Option β := if l.length = 0 then (if A = B then B else none) else B

theorem isnil_f {α β : Type} [DecidableEq β] {l : List α} {A B : Option β} {r : β} (h : isnilM l A B = some r) : B = some r := by
  unfold isnilM at h
  split at h
  · split at h
    · exact h
    · cases h
  · exact h

theorem isnil_t {α β : Type} [DecidableEq β] {l : List α} {A B : Option β} {r : β} (hl : l.length = 0) (h : isnilM l A B = some r) : A = some r := by
  unfold isnilM at h
  rw [if_pos hl] at h
  split at h
  · rename_i e; rw [e]; exact h
  · cases h

section
variable {P : Program} {T : TT} {own : Nat → Bool} {K : St → Prop} {s : St} {ops : Array Oper} {B R : List Nat}

/-- A call of a plain function that hands out no object: the arguments restated. -/
theorem regI_call2 {i : Nat} {is : List Nat} {s1 : St} {c : Call} {g : FuncId} {p1 : List AV} {p : List AV × Prop × Bool} {o : Oper} {r : AV} (hcon : Con P g p1 r []) (ho : ops[i]? = some o) (hoc : o.op = .call c) (hcal : c.callee = .value (.func g))
    (hg : guardA ops s o = some true) (hp : toArgs s.hp (c.args.toList.map s.ev) = some p) (he : p.1 = p1 ∨ All2 (AvLe [] [] 0) p.1 p1) (hpc : p.2.1) (hsh : ∀ n, shift n r = r) (hl : p.2.2 = true → isScalar r = true) (hw : withinB R s o = true)
    (hs : s.setd o.dst r = some s1) (hk : regI P T own ops B R K is s1) (hown : own (o.dst.getD 0) = false := by rfl) : regI P T own ops B R K (i :: is) s := by
  obtain ⟨p2, pc, pl⟩ := p
  have hc' : Con P g p2 r [] := by
    rcases he with he | he
    · simp only at he; subst he; exact hcon
    · exact hcon.args he
  exact regI_call hc' ho hoc hcal hg hp hpc hsh hl hw hs hk hown

theorem regI_ecall2 {i : Nat} {is : List Nat} {s1 : St} {c : Call} {g : FuncId} {p1 : List AV} {p : List AV × Prop × Bool} {o : Oper} {r : AV} {H' : List AObj} (hcon : Con P g p1 r H') (ho : ops[i]? = some o) (hoc : o.op = .call c) (hcal : c.callee = .value (.func g))
    (hg : guardA ops s o = some true) (hp : toArgs s.hp (c.args.toList.map s.ev) = some p) (he : p.1 = p1 ∨ All2 (AvLe [] [] 0) p.1 p1) (hpc : p.2.1) (hl : p.2.2 = true → H' = [] ∧ isScalar r = true) (hR : ∀ id ∈ R, id < s.hp.length)
    (hs : ({ s with hp := s.hp ++ H'.map (objShift s.hp.length) } : St).setd o.dst (shift s.hp.length r) = some s1) (hk : regI P T own ops B R K is s1) (hown : own (o.dst.getD 0) = true := by rfl)
    (hS : slotsB B s.hp = true := by rfl) (hBa : ∀ v ∈ c.args.toList.map s.ev, ∀ id ∈ refsD v, id ∉ B := by simp) : regI P T own ops B R K (i :: is) s := by
  obtain ⟨p2, pc, pl⟩ := p
  have hc' : Con P g p2 r H' := by
    rcases he with he | he
    · simp only at he; subst he; exact hcon
    · exact hcon.args he
  exact regI_ecall hc' ho hoc hcal hg hp hpc hl hR hs hk hown hS hBa
end

/-- A function's end: owned slices among the results. -/
theorem endQ_ret2 {T : TT} {rs : List ResultVar} {s : St} {v r : AV} {hp' : List AObj} (L : List (Option Nat)) (hv : resA T s rs = some v) (hlen : hp'.length = L.length) (hinj : L.Pairwise fun a b => a = none ∨ a ≠ b) (hobj : ObjsLe s.hp L 0 0 hp') (hle : AvLe s.hp L 0 v r) :
    endQ T rs 0 (fun r' H'' => r' = r ∧ H'' = hp') .ret s := endQ_ret L hv (relocH_of hlen hinj hobj) hle
end Go.Av

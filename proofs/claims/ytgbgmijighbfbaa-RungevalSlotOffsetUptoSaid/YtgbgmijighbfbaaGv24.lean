/- The Av framework: arguments of a row opened into abstract values, and a row closed. No law is proved here. -/
import Derived.Test.YtgbgmijighbfbaaGv23
import Derived.ChangeArms
import Derived.WideKeyArgs
import Derived.RowKit3
import Derived.JoinedCond
import Derived.OpenShut
import Derived.Carry
set_option linter.unusedSimpArgs false
set_option linter.unusedVariables false
set_option linter.unusedSectionVars false
namespace Go.Av
open Go.ChangeShapes Go.RowKit

structure Cod (α : Type) where
  cells : α → List AV
  sz : α → Nat
  ok : α → Prop

def frz0 (w : World) : Nat → Prop := fun b => b < w.heap.size

structure BulkOk {H : Type} (B : DataW H → Nat) : Prop where
  str : ∀ l, l.length + 1 ≤ B (.lit (.string l))
  one : ∀ d, 1 ≤ B d
  slice : ∀ es sp, (es.map B).sum + 1 ≤ B (.slice es sp)
  agg : ∀ ps, (ps.map B).sum + 1 ≤ B (.agg ps)

def RowRep (w : World) (as : List AV) (cs : List Value) : Prop :=
  cs.length = as.length ∧ ∀ (j : Nat) c, as[j]? = some c → isFree c = true ∧ RepF (frz0 w) w c (cs.getD j default)

theorem RowRep.nil (w : World) : RowRep w [] [] := ⟨rfl, fun j c h => by simp at h⟩

theorem RowRep.append {w : World} {as bs : List AV} {cs ds : List Value} (h : RowRep w as cs) (k : RowRep w bs ds) : RowRep w (as ++ bs) (cs ++ ds) := by
  refine ⟨by simp [h.1, k.1], fun j c hj => ?_⟩
  rcases Nat.lt_or_ge j as.length with g | g
  · rw [List.getElem?_append_left g] at hj
    have := h.2 j c hj
    rwa [List.getD, List.getElem?_append_left (by rw [h.1]; exact g)]
  · rw [List.getElem?_append_right g] at hj
    have := k.2 _ c hj
    rwa [List.getD, List.getElem?_append_right (by rw [h.1]; exact g), h.1]

theorem RowRep.one {w : World} {a : AV} {v : Value} (hf : isFree a = true) (h : RepF (frz0 w) w a v) : RowRep w [a] [v] := by
  refine ⟨rfl, fun j c hj => ?_⟩
  cases j with
  | zero => simp at hj; subst hj; exact ⟨hf, h⟩
  | succ j => simp at hj

structure Opens (P : Program) (n : Nat) (t : TypeId) {α : Type} (c : Cod α) : Prop where
  go : ∀ {H : Type} {enc : TypeId × Value → H} {B : DataW H → Nat} (_ : BulkOk B) {w : World} {base : Nat} {spare : Nat → Bool} {held : Bool} {fuel : Nat} {cs : List Value} {x : DataW H × List MemPlace},
    fuel ≤ n → DataW.trod enc P w base spare held fuel t cs = some x → ∃ a, c.ok a ∧ c.sz a ≤ B x.1 ∧ RowRep w (c.cells a) cs

section
variable {P : Program} {n : Nat} {t e : TypeId} {α β : Type}

theorem Opens.map {c : Cod α} (h : Opens P n t c) (c' : Cod β) (g : α → β) (hok : ∀ a, c.ok a → c'.ok (g a)) (hsz : ∀ a, c'.sz (g a) ≤ c.sz a) (hc : ∀ a, c'.cells (g a) = c.cells a) : Opens P n t c' := by
  constructor
  intro H enc B hB w base spare held fuel cs x hn hx
  obtain ⟨a, h1, h2, h3⟩ := h.go hB hn hx
  exact ⟨g a, hok a h1, Nat.le_trans (hsz a) h2, by rw [hc]; exact h3⟩

theorem opens_any {c : Cod α} (h : ∀ n, Opens P (n + 1) t c) (n : Nat) : Opens P n t c := by
  cases n with
  | zero =>
    constructor
    intro H enc B hB w base spare held fuel cs x hn hx
    have : fuel = 0 := by omega
    subst this; simp [DataW.trod] at hx
  | succ n => exact h n

def codBool : Cod Bool := ⟨fun b => [.bool b], fun _ => 1, fun _ => True⟩
def codInt (k : IntKind) : Cod Int := ⟨fun n => [.int k n], fun _ => 1, fun n => (Lit.int k n).wf = true⟩
def codStr : Cod ByteArray := ⟨fun s => [.str s], fun s => s.size + 1, fun _ => True⟩
def codList [Inhabited α] (c : Cod α) : Cod (List α) := ⟨fun l => [.list l.length fun i => c.cells (l.getD i default)], fun l => (l.map c.sz).sum + 1, fun l => ∀ a ∈ l, c.ok a⟩
def codUnit : Cod Unit := ⟨fun _ => [], fun _ => 0, fun _ => True⟩
def codProd (c : Cod α) (d : Cod β) : Cod (α × β) := ⟨fun p => c.cells p.1 ++ d.cells p.2, fun p => c.sz p.1 + d.sz p.2, fun p => c.ok p.1 ∧ d.ok p.2⟩

theorem opens_bool (ht : P.underlying t = some .bool) : Opens P n t codBool := by
  constructor
  intro H enc B hB w base spare held fuel cs x hn hx
  obtain ⟨b, rfl, rfl⟩ := DataW.trod_bool ht hx
  exact ⟨b, trivial, hB.one _, RowRep.one rfl (.bool b)⟩

theorem opens_int {k : IntKind} (ht : P.underlying t = some (.int k)) : Opens P n t (codInt k) := by
  constructor
  intro H enc B hB w base spare held fuel cs x hn hx
  obtain ⟨b, rfl, rfl, hw⟩ := DataW.trod_int ht hx
  exact ⟨b, hw, hB.one _, RowRep.one rfl (.int k b)⟩

theorem opens_str (ht : P.underlying t = some .string) : Opens P n t codStr := by
  constructor
  intro H enc B hB w base spare held fuel cs x hn hx
  obtain ⟨b, rfl, rfl, hw⟩ := DataW.trod_string ht hx
  exact ⟨b, trivial, by have := hB.str b.data.toList; simp only [codStr]; have e : b.data.toList.length = b.size := by rw [Array.length_toList]; rfl
                        omega, RowRep.one rfl (.str b)⟩

theorem listOfD {α : Type} [Inhabited α] {n : Nat} {R : Nat → α → Prop} (h : ∀ j, j < n → ∃ v, R j v) : ∃ l : List α, l.length = n ∧ ∀ j, j < n → R j (l.getD j default) := by
  induction n with
  | zero => exact ⟨[], rfl, fun j hj => by omega⟩
  | succ n ih =>
    obtain ⟨l, hl, hr⟩ := ih fun j hj => h j (by omega)
    obtain ⟨v, hv⟩ := h n (by omega)
    refine ⟨l ++ [v], by simp [hl], fun j hj => ?_⟩
    rcases Nat.lt_or_ge j n with g | g
    · have := hr j g
      rwa [List.getD, List.getElem?_append_left (by omega)]
    · have : j = n := by omega
      subst this
      rw [List.getD, List.getElem?_append_right (by omega)]
      simpa [hl] using hv

theorem sum_le_sum {γ : Type} [Inhabited α] (f : α → Nat) (g : γ → Nat) : ∀ (l : List α) (m : List γ), l.length = m.length → (∀ i y, m[i]? = some y → f (l.getD i default) ≤ g y) → (l.map f).sum ≤ (m.map g).sum
  | [], [], _, _ => Nat.le_refl _
  | a :: l, y :: m, hl, h => by
    have h0 := h 0 y rfl
    have := sum_le_sum f g l m (by simpa using hl) (fun i z hi => by simpa using h (i + 1) z (by simpa using hi))
    simp only [List.map_cons, List.sum_cons]
    have h0' : f a ≤ g y := by simpa using h0
    omega

theorem cell_spot {w : World} {a : Addr} {v : Value} (h : w.cell? a = some v) : a.spot = none := by
  unfold World.cell? at h
  split at h
  · split at h
    · cases h
    · rename_i hs; simpa using hs
  · cases h

theorem opens_slice [Inhabited α] {c : Cod α} (ht : P.underlying t = some (.slice e)) (hsz : ∀ a, (c.cells a).length = P.cellsOf e) (hpos : 0 < P.cellsOf e) (he : Opens P n e c) : Opens P (n + 1) t (codList c) := by
  constructor
  intro H enc B hB w base spare held fuel cs x hn hx
  rcases DataW.trod_slice ht hx with ⟨rfl, rfl⟩ | ⟨a, len, cap, elems, rest, m, rfl, rfl, rfl, hb, hlc, hcm, hlen, hel, _, _⟩
  · exact ⟨[], fun a ha => by simp at ha, hB.one _, RowRep.one rfl (.empty _ none 0)⟩
  · have each : ∀ i, i < len → ∃ y : α, ∃ cs' z, w.cells? base (a.add (i * P.cellsOf e)) (P.cellsOf e) = some cs' ∧ elems[i]? = some z ∧ c.ok y ∧ c.sz y ≤ B z.1 ∧ RowRep w (c.cells y) cs' := by
      intro i hi
      have h1 := hel i hi
      rw [List.getElem?_eq_getElem (by omega), Option.bind_eq_some_iff] at h1
      obtain ⟨cs', h1, h2⟩ := h1
      obtain ⟨y, g1, g2, g3⟩ := he.go hB (by omega) h2
      exact ⟨y, cs', _, h1, List.getElem?_eq_getElem (by omega), g1, g2, g3⟩
    obtain ⟨l, hl, hr⟩ := listOfD each
    refine ⟨l, ?_, ?_, ?_⟩
    · intro y hy
      obtain ⟨i, hi⟩ := List.getElem?_of_mem hy
      have hi' := get_lt hi
      obtain ⟨cs', z, _, _, g, _⟩ := hr i (by omega)
      have e1 : l.getD i default = y := by simp [List.getD, hi]
      rwa [e1] at g
    · have h1 := hB.slice (elems.map (·.1)) (rest.map (·.1))
      have h2 := sum_le_sum c.sz (fun z : DataW H × List MemPlace => B z.1) l elems (by omega) (fun i y hi => by
        have hi' := get_lt hi
        obtain ⟨cs', z, _, g0, _, g, _⟩ := hr i (by omega)
        rw [hi] at g0; cases g0; exact g)
      rw [List.map_map] at h1
      exact Nat.le_trans (Nat.succ_le_succ h2) h1
    · have hcell : ∀ i j, i < len → j < P.cellsOf e → ∃ v, w.cell? ⟨a.block, a.off + (i * P.cellsOf e + j), none⟩ = some v ∧ ∀ y, (c.cells (l.getD i default))[j]? = some y → isFree y = true ∧ RepF (frz0 w) w y v := by
        intro i j hi hj
        obtain ⟨cs', z, g1, _, _, _, g2⟩ := hr i hi
        obtain ⟨_, g3, g4⟩ := World.cells?_some g1
        have hlt : j < cs'.length := by omega
        refine ⟨cs'[j], ?_, fun y hy => ?_⟩
        · have h5 := g4 j hj
          rw [List.getElem?_eq_getElem hlt] at h5
          have hspot := cell_spot h5
          have ha : (a.add (i * P.cellsOf e)).add j = ⟨a.block, a.off + (i * P.cellsOf e + j), none⟩ := by
            obtain ⟨b0, o0, s0⟩ := a
            unfold Addr.add at hspot ⊢
            by_cases q1 : j = 0
            · subst q1
              by_cases q2 : i * P.cellsOf e = 0
              · simp [q2] at hspot; subst hspot; simp [q2]
              · simp [q2]
            · simp only [q1, if_false]
              by_cases q2 : i * P.cellsOf e = 0
              · simp [q2]
              · simp [q2, Nat.add_assoc]
          rw [ha] at h5; exact h5
        · have := g2.2 j y hy
          rwa [List.getD, List.getElem?_eq_getElem hlt, Option.getD_some] at this
      cases len with
      | zero =>
        have e1 : l = [] := List.eq_nil_of_length_eq_zero hl
        subst e1
        exact RowRep.one rfl (.empty _ _ _)
      | succ len =>
        have hspot : a.spot = none := by
          obtain ⟨cs', z, g1, _⟩ := hr 0 (by omega)
          obtain ⟨_, g3, g4⟩ := World.cells?_some g1
          have h5 := g4 0 hpos
          rw [List.getElem?_eq_getElem (by omega)] at h5
          have := cell_spot h5
          rw [Nat.zero_mul] at this
          simpa [Addr.add] using this
        have hblk : a.block < w.heap.size := by
          obtain ⟨v, hv, _⟩ := hcell 0 0 (by omega) hpos
          exact World.block_lt_of_cell? w ⟨a.block, a.off + (0 * P.cellsOf e + 0), none⟩ hv
        have ea : a = ⟨a.block, a.off, none⟩ := by
          obtain ⟨b0, o0, s0⟩ := a
          simp at hspot; subst hspot; rfl
        refine RowRep.one rfl ?_
        show RepF _ _ (.list l.length _) _
        rw [hl, ea]
        refine .list (len + 1) _ a.block a.off cap (P.cellsOf e) (fun i j => (w.cell? ⟨a.block, a.off + (i * P.cellsOf e + j), none⟩).getD default) hblk hlc (fun i hi => hsz _) ?_ ?_ ?_
        · intro i j y hi hy
          have hj : j < P.cellsOf e := by have := get_lt hy; rw [hsz] at this; exact this
          obtain ⟨v, hv, _⟩ := hcell i j hi hj
          rw [hv]; rfl
        · intro i j y hi hy
          have hj : j < P.cellsOf e := by have := get_lt hy; rw [hsz] at this; exact this
          obtain ⟨v, hv, g⟩ := hcell i j hi hj
          exact (g y hy).1
        · intro i j y hi hy
          have hj : j < P.cellsOf e := by have := get_lt hy; rw [hsz] at this; exact this
          obtain ⟨v, hv, g⟩ := hcell i j hi hj
          rw [hv]; exact (g y hy).2

theorem sum_ones [Inhabited α] (f : α → Nat) (l : List α) (h : ∀ a, 1 ≤ f a) : l.length ≤ (l.map f).sum := by
  induction l with
  | nil => simp
  | cons a l ih => have := h a; simp; omega

theorem opens_slice' [Inhabited α] {c : Cod α} {k : Nat} (ht : P.underlying t = some (.slice e)) (hk : P.cellsOf e = k + 1) (hsz : ∀ a, (c.cells a).length = k + 1) (he : Opens P n e c) : Opens P (n + 1) t (codList c) :=
  opens_slice ht (fun a => by rw [hsz, hk]) (by omega) he

def totalF (P : Program) : List Field → Nat
  | [] => 0
  | f :: fs => P.cellsOf f.type + totalF P fs

structure OpensF (P : Program) (n : Nat) (fs : List Field) (off : Nat) {α : Type} (c : Cod α) : Prop where
  go : ∀ {H : Type} {enc : TypeId × Value → H} {B : DataW H → Nat} (_ : BulkOk B) {w : World} {base : Nat} {spare : Nat → Bool} {held : Bool} {fuel : Nat} {cs : List Value} {xs : List (DataW H × List MemPlace)},
    fuel ≤ n → off + totalF P fs ≤ cs.length → xs.length = fs.length → (∀ (i : Nat) f, fs[i]? = some f → DataW.trod enc P w base spare held fuel f.type ((cs.drop f.offset).take (P.cellsOf f.type)) = xs[i]?) →
    ∃ a, c.ok a ∧ c.sz a ≤ (xs.map fun x => B x.1).sum ∧ RowRep w (c.cells a) ((cs.drop off).take (totalF P fs))

theorem opensF_nil {off : Nat} : OpensF P n [] off codUnit := by
  constructor
  intro H enc B hB w base spare held fuel cs xs hn hl hx hf
  refine ⟨(), trivial, Nat.zero_le _, ?_⟩
  simp only [totalF, List.take_zero]
  exact RowRep.nil w

theorem opensF_cons {f : Field} {fs : List Field} {off : Nat} {c : Cod α} {d : Cod β} (hoff : f.offset = off) (h : Opens P n f.type c) (hs : OpensF P n fs (off + P.cellsOf f.type) d) : OpensF P n (f :: fs) off (codProd c d) := by
  constructor
  intro H enc B hB w base spare held fuel cs xs hn hl hx hf
  match xs, hx with
  | x :: xs, hx =>
    have h0 := hf 0 f rfl
    simp only [List.getElem?_cons_zero] at h0
    simp only [totalF] at hl
    obtain ⟨a, a1, a2, a3⟩ := h.go hB hn h0
    obtain ⟨b, b1, b2, b3⟩ := hs.go (xs := xs) (cs := cs) hB hn (by omega) (by simpa using hx) (fun i g hg => by simpa using hf (i + 1) g (by simpa using hg))
    refine ⟨(a, b), ⟨a1, b1⟩, by simp only [codProd, List.map_cons, List.sum_cons]; omega, ?_⟩
    have e1 : (cs.drop off).take (totalF P (f :: fs)) = (cs.drop off).take (P.cellsOf f.type) ++ (cs.drop (off + P.cellsOf f.type)).take (totalF P fs) := by
      simp only [totalF]
      rw [List.take_add, List.drop_drop]
    rw [e1]
    rw [hoff] at a3
    exact a3.append b3

theorem opens_struct {fs : Array Field} {c : Cod α} (ht : P.underlying t = some (.struct fs)) (htot : totalF P fs.toList = P.cellsOf t) (h : OpensF P n fs.toList 0 c) : Opens P (n + 1) t c := by
  constructor
  intro H enc B hB w base spare held fuel cs x hn hx
  obtain ⟨xs, m, rfl, rfl, hl, hlen, hf⟩ := DataW.trod_struct ht hx
  obtain ⟨a, a1, a2, a3⟩ := h.go hB (xs := xs) (fuel := m) (cs := cs) (by omega) (by rw [htot, hl]; omega) (by simpa using hlen) (fun i f hi => hf i f (by simpa using hi))
  refine ⟨a, a1, ?_, ?_⟩
  · have := hB.agg (xs.map (·.1))
    rw [List.map_map] at this
    exact Nat.le_trans a2 (by exact Nat.le_trans (Nat.le_succ _) this)
  · rw [List.drop_zero, htot, ← hl, List.take_length] at a3
    exact a3

/-! ### arguments -/

def E0of (w : World) : Env := { F := frz0 w, N := 0, ρ := fun _ => none, σ := fun _ => 0, κ := fun _ => 0, ω := fun _ => 0 }

theorem E0of_ok (w : World) : HeapOk (E0of w) [] w where
  len := rfl
  obj id o h := by simp at h
  lt id b h := by obtain ⟨o, ho, _⟩ := h; simp at ho
  fr id b h := by obtain ⟨o, ho, _⟩ := h; simp at ho
  inj i j b h := by obtain ⟨o, ho, _⟩ := h; simp at ho
  frz b h := h

structure OpensA (P : Program) (t : TypeId) {α : Type} (c : Cod α) (av : α → AV) : Prop where
  go : ∀ {H : Type} {enc : TypeId × Value → H} {B : DataW H → Nat} (_ : BulkOk B) {w : World} {base : Nat} {spare : Nat → Bool} {held : Bool} {b0 : Nat} {v : Value} {d : DataW H} {ps : List MemPlace},
    DataW.Trod enc P w base spare held t v d ps → Value.okWide P w .any b0 t v → ∃ a, c.ok a ∧ c.sz a ≤ B d ∧ Rep (E0of w) w (av a) v

theorem opensA_agg {fs : Array Field} {c : Cod α} (ht : P.underlying t = some (.struct fs)) (h : ∀ n, Opens P n t c) : OpensA P t c fun a => .agg (c.cells a) := by
  constructor
  intro H enc B hB w base spare held b0 v d ps ⟨fuel, hx⟩ hok
  obtain ⟨a, a1, a2, a3⟩ := (h fuel).go hB (Nat.le_refl _) hx
  unfold Value.okWide at hok
  rw [ht] at hok
  obtain ⟨cs, rfl, _, _⟩ := hok
  refine ⟨a, a1, a2, ?_⟩
  have e : (Value.agg cs) = .agg ((Value.agg cs).cells.toList).toArray := by simp [Value.cells]
  rw [e]
  exact .agg _ _ a3.1 fun i x hi => .fz _ _ (a3.2 i x hi).2

theorem opensA_cell {c : Cod α} {av : α → AV} (hc : ∀ a, c.cells a = [av a]) (hd : ∀ d, P.underlying t = some d → match d with | .struct _ | .array _ _ => False | .bool | .string | .int _ | .slice _ => True | _ => False) (h : ∀ n, Opens P n t c) : OpensA P t c av := by
  constructor
  intro H enc B hB w base spare held b0 v d ps ⟨fuel, hx⟩ hok
  obtain ⟨a, a1, a2, a3⟩ := (h fuel).go hB (Nat.le_refl _) hx
  refine ⟨a, a1, a2, ?_⟩
  rw [hc] at a3
  have hna : ∀ cs, v ≠ .agg cs := by
    intro cs e
    subst e
    unfold Value.okWide at hok
    cases hu : P.underlying t with
    | none => rw [hu] at hok; simp [Cell.okWide, Cell.ok, hu] at hok
    | some d =>
      have := hd d hu
      cases d <;> simp [hu, Cell.okWide, Cell.ok] at hok this
  have e : v.cells.toList = [v] := by
    cases v <;> first | rfl | exact absurd rfl (hna _)
  rw [e] at a3
  exact .fz _ _ (a3.2 0 _ rfl).2

theorem trodAll_len {H : Type} {enc : TypeId × Value → H} {w : World} {base : Nat} {spare : Nat → Bool} {held : Bool} : ∀ {ts : List TypeId} {vs : List Value} {ds : List (DataW H)} {ps : List MemPlace}, DataW.TrodAll enc P w base spare held ts vs ds ps → ds.length = ts.length
  | [], _, _, _, h => by obtain ⟨rfl, rfl, rfl⟩ := trodAll_nil h; rfl
  | t :: ts, _, _, _, h => by
    obtain ⟨v, vs', d', ds', p, q, rfl, rfl, rfl, h1, h2⟩ := trodAll_cons h
    simp [trodAll_len h2]

structure OpensL (P : Program) (ts : List TypeId) {α : Type} (c : Cod α) (av : α → List AV) : Prop where
  go : ∀ {H : Type} {enc : TypeId × Value → H} {B : DataW H → Nat} (_ : BulkOk B) {w : World} {base : Nat} {spare : Nat → Bool} {held : Bool} {b0 : Nat} {vs : List Value} {ds : List (DataW H)} {ps : List MemPlace},
    DataW.TrodAll enc P w base spare held ts vs ds ps → (∀ (j : Nat) t v, ts[j]? = some t → vs[j]? = some v → Value.okWide P w .any b0 t v) →
    ∃ a, c.ok a ∧ c.sz a ≤ (ds.map B).sum ∧ ArgsRep (E0of w) w (av a) vs

theorem opensL_nil : OpensL P [] codUnit fun _ => [] := by
  constructor
  intro H enc B hB w base spare held b0 vs ds ps h hok
  obtain ⟨rfl, rfl, rfl⟩ := trodAll_nil h
  exact ⟨(), trivial, Nat.zero_le _, rfl, fun i c hi => by simp at hi⟩

theorem opensL_cons {ts : List TypeId} {c : Cod α} {d : Cod β} {av : α → AV} {avs : β → List AV} (h : OpensA P t c av) (hs : OpensL P ts d avs) : OpensL P (t :: ts) (codProd c d) fun p => av p.1 :: avs p.2 := by
  constructor
  intro H enc B hB w base spare held b0 vs ds ps hx hok
  obtain ⟨v, vs', d', ds', p, q, rfl, rfl, rfl, h1, h2⟩ := trodAll_cons hx
  obtain ⟨a, a1, a2, a3⟩ := h.go hB h1 (hok 0 t v rfl rfl)
  obtain ⟨b, b1, b2, b3, b4⟩ := hs.go hB h2 (fun j t v ht hv => hok (j + 1) t v (by simpa using ht) (by simpa using hv))
  refine ⟨(a, b), ⟨a1, b1⟩, by simp only [codProd, List.map_cons, List.sum_cons]; omega, by simp [b3], fun i x hi => ?_⟩
  cases i with
  | zero => simp at hi; subst hi; simpa using a3
  | succ i => simp at hi; simpa using b4 i x hi

theorem Con.returns {f : FuncId} {args : List AV} {b : Bool} (h : Con P f args (.bool b) []) {w : World} {vals : List Value} (ha : ArgsRep (E0of w) w args vals) :
    Calls P f vals.toArray w fun e w' => e = .returned (.bool b) ∧ Same w w' := by
  refine (h.2 (E0of w) w vals (E0of_ok w) ha).mono fun e w' he => ?_
  cases e with
  | returned x =>
    obtain ⟨r, H', E', ⟨rfl, rfl⟩, hr, hA⟩ := he
    have := hr.boolV
    subst this
    refine ⟨rfl, hA.keeps.os, hA.keeps.tape, hA.keeps.output, hA.keeps.size, fun b hb => hA.keeps.block b hb ?_, hA.keeps.frz⟩
    rintro ⟨id, ⟨o, ho, _⟩, _⟩
    simp at ho
  | _ => exact he.elim

theorem Same.grown {w w' : World} (h : Same w w') : Grown w w' := by
  refine ⟨⟨h.os, h.output, fun i hi => ?_⟩, h.frz, h.size⟩
  rw [h.block i hi]
  exact (World.keptBut_refl w (fun _ => False)).2.2 i hi

theorem Same.trodAll {H : Type} {enc : TypeId × Value → H} {w w' : World} (hs : Same w w') (hl : laidOutB P = true) {sp : Nat → Bool} : ∀ {ts : List TypeId} {vs : List Value} {ds : List (DataW H)} {ps : List MemPlace},
    (∀ t ∈ ts, P.readableRec t = true ∧ t < P.types.size) → DataW.TrodAll enc P w 0 (fun _ => true) true ts vs ds ps → (∀ p ∈ ps, sp p.block = true) → DataW.TrodAll enc P w' 0 sp true ts vs ds ps
  | [], _, _, _, _, h, _ => by obtain ⟨rfl, rfl, rfl⟩ := trodAll_nil h; exact rfl
  | t :: ts, _, _, _, ht, h, hsp => by
    have hlt := DataW.TrodAll.lt h
    obtain ⟨v, vs', d', ds', p, q, rfl, rfl, rfl, h1, h2⟩ := trodAll_cons h
    refine ⟨p, q, ?_, Same.trodAll hs hl (fun u hu => ht u (by simp [hu])) h2 (fun x hx => hsp x (by simp [hx])), rfl⟩
    refine WideElems.Trod_stays hl (ht t (by simp)).1 (ht t (by simp)).2 h1 (fun x hx => ?_) (fun x hx => hsp x (by simp [hx]))
    have hb := hlt x (by simp [hx])
    cases x with
    | cell b off => exact World.cell?_of_block (hs.block b hb)
    | map b => exact hs.block b hb

/-- A row of a law: its contract. -/
theorem law_contract {f : FuncId} {fn : Func} {s : ChangeSpec} {α : Type} {c : Cod α} {av : α → List AV} {tb : TypeId} (ts : List TypeId) (hps : fn.params.toList = ts) (hrs : fn.resultTypes = #[tb]) (htb : P.underlying tb = some .bool)
    (hl : laidOutB P = true) (hread : ∀ t ∈ ts, P.readableRec t = true ∧ t < P.types.size) (hvars : s.vars = []) (hspec : ∀ (H : Type) (ds : List (DataW H)), ds.length = ts.length → s.fn H ds = { results := [.lit (.bool true)], args := ds })
    (ho : OpensL P ts c av) {N : Nat} (hcon : ∀ a, c.ok a → c.sz a ≤ N → Con P f (av a) (.bool true) [])
    {H : Type} (enc : TypeId × Value → H) {B : DataW H → Nat} (hB : BulkOk B) (W : World) (base : Nat) (args : Array Value) (ds gs : List (DataW H)) (before : List MemPlace)
    (hval : ∀ (j : Nat) t v, fn.params[j]? = some t → args[j]? = some v → Value.okWide P W .any base t v)
    (hW : DataW.Whole enc P fn.params.toList s.vars false W args.toList ds gs before) (hk : ((ds ++ gs).map B).sum ≤ N) :
    Calls P f args W fun e W' => ∃ v, e = .returned v ∧ s.post enc P fn false true false false W args v W' := by
  have hW' := hW
  obtain ⟨p, q, hA, hV, rfl, hfz, hnd⟩ := hW
  rw [hvars] at hV
  obtain ⟨rfl, rfl⟩ := trodVars_none hV
  rw [hps] at hA
  rw [List.append_nil] at hk
  obtain ⟨a, a1, a2, a3⟩ := ho.go (b0 := base) hB hA (fun j t v ht hv => hval j t v (by rw [← hps] at ht; simpa using ht) (by simpa using hv))
  have hcl := (hcon a a1 (Nat.le_trans a2 hk)).returns a3
  rw [show args.toList.toArray = args by simp] at hcl
  refine hcl.mono fun e W' ⟨he, hs⟩ => ?_
  subst he
  refine ⟨_, rfl, ?_⟩
  have hlen : ds.length = ts.length := (by have h := hA; clear hcl hfz; exact trodAll_len h)
  have hfn := hspec H ds hlen
  have hrt : fn.resultTypes.toList = [tb] := by rw [hrs]
  have hrl : (Value.bool true).resultList fn.resultTypes.size = [.bool true] := by rw [hrs]; rfl
  refine post_of_same (pa := p) (pv := []) hW' ?_ ?_ ?_ rfl (hs.grown.frame _) hs.frz ?_
  · intro b sp hd
    rw [List.append_nil, hfn, hrt, hrl]
    exact trodAll_cons_mk (shut_bool htb _) trodAll_mk0
  · intro sp hsp
    rw [List.append_nil, hfn, hps]
    exact hs.trodAll hl hread hA (fun x hx => hsp x (by simpa using hx))
  · intro sp hsp
    rw [List.append_nil, hfn, hvars]
    exact rfl
  · intro j t r ht hr
    rw [hrl] at hr
    cases j with
    | zero => simp at hr; subst hr; rw [hrs] at ht; simp at ht; subst ht; exact okWide_bool_mk htb _
    | succ j => simp at hr

end
end Go.Av

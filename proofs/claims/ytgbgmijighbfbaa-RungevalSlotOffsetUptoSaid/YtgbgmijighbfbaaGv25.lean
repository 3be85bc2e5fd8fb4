/- The Av framework: rows as lists. No law is proved here. -/
import Derived.Test.YtgbgmijighbfbaaGv24
set_option linter.unusedSimpArgs false
set_option linter.unusedVariables false
set_option linter.unusedSectionVars false
namespace Go.Av

theorem rw_at {L : List (List AV)} {i : Nat} {r : List AV} (h : L[i]? = some r) : rw L i = r := by simp [rw, h]

theorem fz_rw (n : Nat) (L : List (List AV)) : fz n (rw L) = rw (L.take n) := by
  funext i
  simp only [fz, rw, List.getElem?_take]
  split <;> rfl

theorem fz_const (n : Nat) (z : List AV) : fz n (constRow z) = rw (List.replicate n z) := by
  funext i
  simp only [fz, rw, constRow, List.getElem?_replicate]
  split <;> rfl

theorem dropRow_rw (b : Nat) (L : List (List AV)) : dropRow b (rw L) = rw (L.drop b) := by
  funext i
  simp [dropRow, rw]

theorem fz_append {n k : Nat} {A B : List (List AV)} (h : A.length = n) : fz (n + k) (appendRow n (rw A) (rw B)) = rw (A ++ B.take k) := by
  funext i
  subst h
  simp only [fz, appendRow, rw]
  by_cases h1 : i < A.length
  · rw [if_pos (by omega), if_pos h1, List.getElem?_append_left h1]
  · rw [if_neg h1, List.getElem?_append_right (by omega), List.getElem?_take]
    by_cases h2 : i - A.length < k
    · rw [if_pos (by omega), if_pos h2]
    · rw [if_neg (by omega), if_neg h2]; rfl

theorem fz_set {n i off : Nat} {new : List AV} {L : List (List AV)} (h : L.length = n) : fz n (setRow i off new (rw L)) = rw (L.set i (splice (rw L i) off new)) := by
  funext j
  subst h
  simp only [fz, setRow, rw, List.getElem?_set]
  by_cases h1 : j < L.length
  · rw [if_pos h1]
    by_cases h2 : j = i
    · subst h2; simp [h1]
    · rw [if_neg h2, if_neg (Ne.symm h2)]
  · rw [if_neg h1]
    by_cases h2 : i = j
    · subst h2; simp [h1]
    · rw [if_neg h2, List.getElem?_eq_none (by omega)]; rfl

theorem fz_copy {m b k : Nat} {A B : List (List AV)} (hA : A.length = m) (hb : b + k ≤ m) (hB : k ≤ B.length) : fz m (copyRow b k (rw A) (rw B)) = rw (A.take b ++ (B.take k ++ A.drop (b + k))) := by
  funext j
  subst hA
  simp only [fz, copyRow, rw]
  have hl : (A.take b).length = b := by simp; omega
  have hl2 : (B.take k).length = k := by simp; omega
  by_cases h1 : j < A.length
  · rw [if_pos h1]
    by_cases h2 : b ≤ j ∧ j < b + k
    · rw [if_pos h2, List.getElem?_append_right (by omega), hl, List.getElem?_append_left (by omega), List.getElem?_take, if_pos (by omega)]
    · rw [if_neg h2]
      by_cases h3 : j < b
      · rw [List.getElem?_append_left (by omega), List.getElem?_take, if_pos h3]
      · rw [List.getElem?_append_right (by omega), hl, List.getElem?_append_right (by omega), hl2, List.getElem?_drop]
        congr 2; omega
  · rw [if_neg h1, List.getElem?_eq_none (by simp; omega)]; rfl

def RowsLen (k : Nat) (L : List (List AV)) : Prop := ∀ r ∈ L, r.length = k

theorem rowLen_rw {n k : Nat} {L : List (List AV)} (h1 : RowsLen k L) (h2 : n ≤ L.length) : rowLen n (rw L) k = True := by
  simp only [rowLen, eq_iff_iff, iff_true]
  intro i hi
  simp only [rw, List.getElem?_eq_getElem (Nat.lt_of_lt_of_le hi h2), Option.getD_some]
  exact h1 _ (List.getElem_mem _)

theorem rowsLen_nil (k : Nat) : RowsLen k [] = True := by simp [RowsLen]
theorem rowsLen_cons (k : Nat) (r : List AV) (L : List (List AV)) : RowsLen k (r :: L) = (r.length = k ∧ RowsLen k L) := by simp [RowsLen]
theorem rowsLen_append (k : Nat) (A B : List (List AV)) : RowsLen k (A ++ B) = (RowsLen k A ∧ RowsLen k B) := by
  simp only [RowsLen, List.mem_append, eq_iff_iff]
  exact ⟨fun h => ⟨fun r hr => h r (.inl hr), fun r hr => h r (.inr hr)⟩, fun h r hr => hr.elim (h.1 r) (h.2 r)⟩
theorem rowsLen_map {α : Type} {k : Nat} {c : α → List AV} {l : List α} (h : ∀ x, (c x).length = k) : RowsLen k (l.map c) = True := by
  simp only [RowsLen, eq_iff_iff, iff_true]
  intro r hr
  obtain ⟨x, _, rfl⟩ := List.mem_map.1 hr
  exact h x
theorem rowsLen_take {k n : Nat} {L : List (List AV)} (h : RowsLen k L) : RowsLen k (L.take n) = True := by
  simp only [eq_iff_iff, iff_true]; exact fun r hr => h r (List.mem_of_mem_take hr)
theorem rowsLen_drop {k n : Nat} {L : List (List AV)} (h : RowsLen k L) : RowsLen k (L.drop n) = True := by
  simp only [eq_iff_iff, iff_true]; exact fun r hr => h r (List.mem_of_mem_drop hr)
theorem rowsLen_replicate {k n : Nat} {r : List AV} (h : r.length = k) : RowsLen k (List.replicate n r) = True := by
  simp only [eq_iff_iff, iff_true]; intro x hx; rw [List.eq_of_mem_replicate hx]; exact h
theorem take_map_len {α β : Type} (l : List α) (f : α → β) : List.take l.length (l.map f) = l.map f := by
  rw [List.take_of_length_le]; simp
theorem drop_map_len {α β γ : Type} (l : List α) (m : List γ) (f : α → β) (h : l.length = m.length) : List.drop m.length (l.map f) = [] := by
  rw [List.drop_eq_nil_of_le]; simp [h]
theorem take_map_le {α β : Type} {l : List α} {f : α → β} {n : Nat} (h : l.length ≤ n) : List.take n (l.map f) = l.map f := by
  rw [List.take_of_length_le]; simpa using h
theorem take_drop_len {α β : Type} (l : List α) (f : α → β) (k : Nat) : List.take (l.length - k) (List.drop k (l.map f)) = List.drop k (l.map f) := by
  rw [List.take_of_length_le]; simp

def chunks (sz : Nat) : Nat → List AV → List (List AV)
  | 0, _ => []
  | n + 1, cs => cs.take sz :: chunks sz n (cs.drop sz)

theorem chunks_get (sz : Nat) : ∀ (n : Nat) (cs : List AV) (i : Nat), (chunks sz n cs)[i]? = if i < n then some ((cs.drop (i * sz)).take sz) else none
  | 0, cs, i => by simp [chunks]
  | n + 1, cs, 0 => by simp [chunks]
  | n + 1, cs, i + 1 => by
    simp only [chunks, List.getElem?_cons_succ, chunks_get sz n, List.drop_drop, Nat.add_lt_add_iff_right]
    have : sz + i * sz = (i + 1) * sz := by rw [Nat.add_mul]; omega
    rw [this]

theorem fz_rows (n sz : Nat) (cs : List AV) : fz n (rowsOf sz cs) = rw (chunks sz n cs) := by
  funext i
  simp only [fz, rowsOf, rw, chunks_get]
  split <;> rfl

/-- A slice of values. -/
def aL {α : Type} (c : α → List AV) (l : List α) : AV := .list l.length (rw (l.map c))

/-- A stored row's cells. -/
theorem rw_map {α : Type} {c : α → List AV} {l : List α} {i : Nat} {x : α} (h : l[i]? = some x) : rw (l.map c) i = c x := by simp [rw, h]

/-- A loop, by rounds that are counted. -/
def loopF {α : Type} (S : α → St) (I : Nat → α → Prop) (Q : Exit → St → Prop) (n : Nat) : Exit → St → Prop
  | .normal, s => ∃ y, I n y ∧ Reloc s (S y)
  | e, s => Q e s

theorem Wp.loopF {P : Program} {α : Type} (S : α → St) (I : Nat → α → Prop) {c : Code} {Q : Exit → St → Prop} {s : St} (h0 : ∀ x, ¬ I 0 x) (h : ∀ n x, I (n + 1) x → Wp P c (loopF S I Q n) (S x)) (n : Nat) (x : α) (hx : I n x) (hr : Reloc s (S x)) : Wp P (.loop c) Q s := by
  refine Wp.loop (α := Nat × α) (fun p => S p.2) (fun p => p.1) (fun p => I p.1 p.2) (fun p hp => ?_) (n, x) hx hr
  obtain ⟨k, y⟩ := p
  cases k with
  | zero => exact absurd hp (h0 y)
  | succ k =>
    refine (h k y hp).mono fun e s hq => ?_
    cases e with
    | normal => obtain ⟨z, hz, hrz⟩ := hq; exact ⟨(k, z), hz, Nat.lt_succ_self _, hrz⟩
    | _ => exact hq

/-- Code whose ways meet again. -/
def joinQ {α : Type} (S : α → St) (I : α → Prop) (Q : Exit → St → Prop) : Exit → St → Prop
  | .normal, s => ∃ y, I y ∧ Reloc s (S y)
  | e, s => Q e s

theorem Wp.join {P : Program} {α : Type} (S : α → St) (I : α → Prop) {a b : Code} {Q : Exit → St → Prop} {s : St} (hb : ∀ x, I x → Wp P b Q (S x)) (ha : Wp P a (joinQ S I Q) s) : Wp P (.seq a b) Q s := by
  refine Wp.seq (ha.mono fun e s hq => ?_)
  cases e with
  | normal => obtain ⟨y, hy, hr⟩ := hq; exact Wp.reloc hr (hb y hy)
  | _ => exact hq

end Go.Av

/- The Av framework: restating a state, entry by entry. No law is proved here. -/
import Derived.Test.YtgbgmijighbfbaaGv21
set_option linter.unusedSimpArgs false
set_option linter.unusedVariables false
set_option linter.unusedSectionVars false
namespace Go.Av

def ObjsLe (hp : List AObj) (L : List (Option Nat)) (base : Nat) : Nat → List AObj → Prop
  | _, [] => True
  | i, o :: os => ObjLe hp L base i o ∧ ObjsLe hp L base (i + 1) os

def ChLe (hp : List AObj) (L : List (Option Nat)) (base : Nat) (ch : List (Nat × AV)) : List (Nat × AV) → Prop
  | [] => True
  | p :: r => AvLe hp L base (look ch p.1) p.2 ∧ ChLe hp L base ch r

theorem ObjsLe.get {hp : List AObj} {L : List (Option Nat)} {base : Nat} : ∀ {i : Nat} {os : List AObj}, ObjsLe hp L base i os → ∀ (k : Nat) o, os[k]? = some o → ObjLe hp L base (i + k) o
  | i, [], _, k, o, h => by simp at h
  | i, o :: os, h, k, o', hk => by
    cases k with
    | zero => simp at hk; subst hk; exact h.1
    | succ k =>
      have := ObjsLe.get h.2 k o' (by simpa using hk)
      rw [show i + (k + 1) = i + 1 + k by omega]; exact this

theorem ChLe.mem {hp : List AObj} {L : List (Option Nat)} {base : Nat} {ch : List (Nat × AV)} : ∀ {ch' : List (Nat × AV)}, ChLe hp L base ch ch' → ∀ p ∈ ch', AvLe hp L base (look ch p.1) p.2
  | [], _, p, h => by simp at h
  | q :: r, h, p, hp => by
    rcases List.mem_cons.1 hp with e | e
    · subst e; exact h.1
    · exact ChLe.mem h.2 p e

theorem ObjLe.var' {hp : List AObj} {L : List (Option Nat)} {base i id : Nat} {cs cs' : List AV} (h1 : L[i]? = some (some id)) (h2 : hp[id]? = some (.var cs)) (hc : All2 (AvLe hp L base) cs cs') (hf : cs'.all isCell = true) : ObjLe hp L base i (.var cs') :=
  ⟨id, cs, h1, h2, hc.len, fun j c c' h h' => ⟨List.all_eq_true.1 hf c' (List.mem_of_getElem? h'), hc.get j c c' h h'⟩⟩

theorem ObjLe.arr' {hp : List AObj} {L : List (Option Nat)} {base i id sz n m : Nat} {row row' : Nat → List AV} (h1 : L[i]? = some (some id)) (h2 : hp[id]? = some (.arr sz m row)) (hn : n ≤ m) (hr : ∀ k, k < n → row k = row' k) : ObjLe hp L base i (.arr sz n row') :=
  .inr ⟨id, m, row, h1, h2, hn, hr⟩

theorem ObjLe.map' {hp : List AObj} {L : List (Option Nat)} {base i id : Nat} {es : List (AV × AV)} (h1 : L[i]? = some (some id)) (h2 : hp[id]? = some (.map es)) : ObjLe hp L base i (.map es) := ⟨id, h1, h2⟩

theorem ObjLe.ghost' {hp : List AObj} {L : List (Option Nat)} {base i sz : Nat} {row' : Nat → List AV} (h1 : L[i]? = some none) (hs : 0 < sz) : ObjLe hp L base i (.arr sz 0 row') := .inl ⟨h1, rfl, hs⟩

section
variable {hp : List AObj} {L : List (Option Nat)} {base : Nat} {ch : List (Nat × AV)}
theorem objsLe_nil {i : Nat} : ObjsLe hp L base i [] := trivial
theorem objsLe_cons {i : Nat} {o : AObj} {os : List AObj} (h : ObjLe hp L base i o) (t : ObjsLe hp L base (i + 1) os) : ObjsLe hp L base i (o :: os) := ⟨h, t⟩
theorem chLe_nil : ChLe hp L base ch [] := trivial
theorem chLe_cons {k : Nat} {v : AV} {r : List (Nat × AV)} (h : AvLe hp L base (look ch k) v) (t : ChLe hp L base ch r) : ChLe hp L base ch ((k, v) :: r) := ⟨h, t⟩
end

theorem AvLe.sl' {hp : List AObj} {L : List (Option Nat)} {base id id' b b' n n' : Nat} (h : L[id']? = some (some id)) (hb : b' = b) (hn : n' = n) : AvLe hp L base (.sl id b n) (.sl id' b' n') := by
  subst hb; subst hn; exact .sl _ _ _ _ h

theorem Reloc.mk2 {s : St} (L : List (Option Nat)) {ch' : List (Nat × AV)} {hp' : List AObj} {n : Nat} {c : Prop} (hb : s.base = 0) (hn : n = s.n) (hlen : hp'.length = L.length) (hinj : L.Pairwise fun a b => a = none ∨ a ≠ b)
    (hobj : ObjsLe s.hp L 0 0 hp') (hch : ChLe s.hp L 0 s.ch ch') : Reloc s { ch := ch', hp := hp', base := 0, n := n, cond := c } := by
  refine ⟨hb.symm, hn, L, ⟨hlen, by omega, fun i hi => by omega, inj_of hinj, fun i o ho => ?_⟩, ?_⟩
  · rw [hb]; have := hobj.get i o ho; rwa [Nat.zero_add] at this
  · rw [hb]; exact look_le hch.mem

theorem relocH_of {hp hp' : List AObj} {L : List (Option Nat)} (hlen : hp'.length = L.length) (hinj : L.Pairwise fun a b => a = none ∨ a ≠ b) (hobj : ObjsLe hp L 0 0 hp') : RelocH L 0 hp hp' :=
  ⟨hlen, Nat.zero_le _, fun i hi => by omega, inj_of hinj, fun i o ho => by have := hobj.get i o ho; rwa [Nat.zero_add] at this⟩

/-- An owned slice is frozen, its array being dropped. -/
theorem AvLe.frz2 {hp : List AObj} {L : List (Option Nat)} {base id b n n' sz m : Nat} {row row' : Nat → List AV} (h : hp[id]? = some (.arr sz m row)) (hL : some id ∉ L) (hb : base = 0) (hn' : n' = n) (hn : b + n ≤ m) (hr : ∀ i, i < n → row (b + i) = row' i) : AvLe hp L base (.sl id b n) (.list n' row') := by
  subst hn'
  exact .frz id b n' sz m row row' h (by omega) hL hn hr

end Go.Av

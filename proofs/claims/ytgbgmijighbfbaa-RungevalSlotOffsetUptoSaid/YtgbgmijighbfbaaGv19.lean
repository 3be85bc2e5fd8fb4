/- The Av framework: what an operation yields hangs on what it looks at alone. No law is proved here. -/
import Derived.Test.YtgbgmijighbfbaaGv18
set_option linter.unusedSimpArgs false
set_option linter.unusedVariables false
set_option linter.unusedSectionVars false
namespace Go.Av

/-- The result of an operation that yields a value and does nothing else. -/
def Yv (s : St) (d : Option Nat) (v : AV) (o : Option St) : Prop := ∃ r, o = some r ∧ r.cond ∧ s.setd d v = some { r with cond := s.cond }

section
variable {s s' : St} {d : Option Nat} {v v0 : AV} {T : TT} {own : Nat → Bool} {t t' : TypeId} {x y i : AV}

theorem Yv.setd (h : Yv s d v (s.setd d v0)) (hn : s'.n = s.n) (hc : s'.cond) : Yv s' d v (s'.setd d v0) := by
  obtain ⟨r, h1, h2, h3⟩ := h
  cases d with
  | none => exact ⟨s', rfl, hc, rfl⟩
  | some d =>
    simp only [St.setd] at h1 h3 ⊢
    cases hb : Nat.blt d s.n with
    | false => rw [hb] at h1; cases h1
    | true =>
      rw [hb, cond_true, Option.some.injEq] at h1 h3
      subst h1
      have : v = v0 := by injection h3 with e1 e2; injection e1 with e3 e4; injection e3
      subst this
      rw [← hn] at hb
      exact ⟨{ s' with ch := (d, v) :: s'.ch }, by simp only [St.setd, hb, cond_true], hc, by simp only [St.setd, hb, cond_true]⟩

theorem Yv.need {c : Prop} (h : Yv s d v ((s.need c).setd d v0)) (hn : s'.n = s.n) (hc : s'.cond) : Yv s' d v ((s'.need c).setd d v0) := by
  obtain ⟨r, h1, h2, h3⟩ := h
  cases d with
  | none =>
    have e : s.need c = r := by simpa [St.setd] using h1
    subst e
    exact ⟨s'.need c, rfl, ⟨hc, h2.2⟩, rfl⟩
  | some d =>
    simp only [St.setd, St.need] at h1 h3 ⊢
    cases hb : Nat.blt d s.n with
    | false => rw [hb] at h1; cases h1
    | true =>
      rw [hb, cond_true, Option.some.injEq] at h1 h3
      subst h1
      have : v = v0 := by injection h3 with e1 e2; injection e1 with e3 e4; injection e3
      subst this
      rw [← hn] at hb
      exact ⟨{ s' with ch := (d, v) :: s'.ch, cond := s'.cond ∧ c }, by simp only [St.setd, hb, cond_true], ⟨hc, h2.2⟩, by simp only [St.setd, hb, cond_true]⟩

theorem Yv.no (h : Yv s d v none) : False := by obtain ⟨r, h, _⟩ := h; cases h

theorem cong_bin {op : BinOp} (h : Yv s d v (opBin T s d op t x y)) (hn : s'.n = s.n) (hc : s'.cond) : Yv s' d v (opBin T s' d op t x y) := by
  unfold opBin at h ⊢
  split at h
  · rename_i k a k' b
    cases hk : decide (k = k') with
    | false => rw [hk] at h; exact h.no.elim
    | true =>
      rw [hk, cond_true] at h
      simp only [hk, cond_true]
      cases hr : intBin op k a b with
      | none => rw [hr] at h; exact h.no.elim
      | some r => rw [hr] at h; exact h.need hn hc
  · rename_i a b
    try simp only at h ⊢
    cases hr : strBin op a b with
    | none => rw [hr] at h; exact h.no.elim
    | some r => rw [hr] at h; exact h.need hn hc
  · try simp only at h ⊢
    cases ht : T t with
    | none => rw [ht] at h; exact h.no.elim
    | some ts =>
      rw [ht, Option.bind_some] at h
      simp only [Option.bind_some]
      split at h
      · exact h.setd hn hc
      · exact h.setd hn hc
      · exact h.no.elim
  · rename_i as bs
    try simp only at h ⊢
    cases ht : T t with
    | none => rw [ht] at h; exact h.no.elim
    | some ts =>
      rw [ht, Option.bind_some] at h
      simp only [Option.bind_some]
      cases hb : (ts.isAgg && (!ts.eq.isEmpty) && cksB ts.eq as && cksB ts.eq bs) with
      | false => rw [hb] at h; exact h.no.elim
      | true =>
        rw [hb, cond_true] at h
        rw [cond_true]
        cases hr : eqC as bs with
        | none => rw [hr] at h; exact h.no.elim
        | some r =>
          rw [hr, Option.bind_some] at h
          rw [Option.bind_some]
          cases op <;> first | exact h.setd hn hc | exact h.no.elim
  · exact h.no.elim

theorem cong_un {op : UnOp} (h : Yv s d v (opUn s d op x)) (hn : s'.n = s.n) (hc : s'.cond) : Yv s' d v (opUn s' d op x) := by
  unfold opUn at h ⊢
  split at h
  · exact h.setd hn hc
  · exact h.setd hn hc
  · exact h.no.elim

theorem cong_convert (h : Yv s d v (opConvert T s d t t' x)) (hn : s'.n = s.n) (hc : s'.cond) : Yv s' d v (opConvert T s' d t t' x) := by
  unfold opConvert at h ⊢
  cases ht : T t with
  | none => rw [ht] at h; exact h.no.elim
  | some ts =>
    cases ht' : T t' with
    | none => rw [ht, ht'] at h; exact h.no.elim
    | some td =>
      rw [ht, ht'] at h
      try simp only [Option.bind_some] at h ⊢
      split at h
      · rename_i hk; (try simp only [hk]); exact h.setd hn hc
      · rename_i hk; (try simp only [hk]); exact h.setd hn hc
      · exact h.no.elim

theorem cong_extract {k : Nat} (h : Yv s d v (opExtract s d x k)) (hn : s'.n = s.n) (hc : s'.cond) : Yv s' d v (opExtract s' d x k) := by
  unfold opExtract at h ⊢
  split at h
  · rename_i vs
    try simp only at h ⊢
    cases hv : vs[k]? with
    | none => rw [hv] at h; exact h.no.elim
    | some u => rw [hv] at h; exact h.setd hn hc
  · exact h.no.elim

theorem cong_iface (h : Yv s d v (opMakeInterface T s d t x)) (hn : s'.n = s.n) (hc : s'.cond) : Yv s' d v (opMakeInterface T s' d t x) := by
  unfold opMakeInterface at h ⊢
  cases ht : T t with
  | none => rw [ht] at h; exact h.no.elim
  | some ts =>
    rw [ht] at h
    try simp only [Option.bind_some] at h ⊢
    cases hb : (isFree x && ts.kind.solid) with
    | false => rw [hb] at h; exact h.no.elim
    | true => rw [hb] at h; exact h.setd hn hc

theorem cong_field {f : Nat} (h : Yv s d v (opField T s d t x f)) (hn : s'.n = s.n) (hc : s'.cond) : Yv s' d v (opField T s' d t x f) := by
  unfold opField at h ⊢
  cases ht : T t with
  | none => rw [ht] at h; exact h.no.elim
  | some ts =>
    rw [ht] at h
    try simp only [Option.bind_some] at h ⊢
    split at h
    · rename_i fs cs hk
      try simp only [hk] at h ⊢
      cases hf : fs[f]? with
      | none => rw [hf] at h; exact h.no.elim
      | some p =>
        rw [hf] at h
        try simp only [Option.bind_some] at h ⊢
        cases htf : T p.2 with
        | none => rw [htf] at h; exact h.no.elim
        | some tf =>
          rw [htf] at h
          try simp only [Option.bind_some] at h ⊢
          cases hb : (tf.isAgg || Nat.beq tf.size 1) with
          | false => rw [hb] at h; exact h.no.elim
          | true =>
            rw [hb] at h
            try simp only [cond_true] at h ⊢
            cases hp : partA tf cs p.1 with
            | none => rw [hp] at h; exact h.no.elim
            | some u => rw [hp] at h; exact h.setd hn hc
    · exact h.no.elim

theorem cong_fieldAddr {f : Nat} (h : Yv s d v (opFieldAddr T s d t x f)) (hn : s'.n = s.n) (hc : s'.cond) : Yv s' d v (opFieldAddr T s' d t x f) := by
  unfold opFieldAddr at h ⊢
  cases ht : T t with
  | none => rw [ht] at h; exact h.no.elim
  | some ts =>
    rw [ht] at h
    try simp only [Option.bind_some] at h ⊢
    split at h
    · rename_i fs hk
      try simp only [hk] at h ⊢
      cases hf : fs[f]? with
      | none => rw [hf] at h; exact h.no.elim
      | some p =>
        rw [hf] at h
        try simp only [Option.bind_some] at h ⊢
        cases htf : T p.2 with
        | none => rw [htf] at h; exact h.no.elim
        | some tf =>
          rw [htf] at h
          try simp only [Option.bind_some] at h ⊢
          cases hb : Nat.ble 1 tf.size with
          | false => rw [hb] at h; exact h.no.elim
          | true =>
            rw [hb] at h
            try simp only [cond_true] at h ⊢
            split at h
            · exact h.setd hn hc
            · exact h.setd hn hc
            · exact h.no.elim
    · exact h.no.elim

/-- The objects that a value names. -/
def refs : AV → List Nat
  | .sl id _ _ => [id]
  | .hptr id _ _ => [id]
  | .mp id => [id]
  | _ => []

def SameAt (s s' : St) (x : AV) : Prop := ∀ id ∈ refs x, s'.hp[id]? = s.hp[id]?

theorem cong_indexAddr (h : Yv s d v (opIndexAddr T s d t x i)) (hn : s'.n = s.n) (hc : s'.cond) (hh : SameAt s s' x) : Yv s' d v (opIndexAddr T s' d t x i) := by
  unfold opIndexAddr at h ⊢
  cases ht : T t with
  | none => rw [ht] at h; exact h.no.elim
  | some ts =>
    rw [ht] at h
    try simp only [Option.bind_some] at h ⊢
    split at h
    · rename_i e k0 k hk
      try simp only [hk] at h ⊢
      cases hte : T e with
      | none => rw [hte] at h; exact h.no.elim
      | some te =>
        rw [hte] at h
        try simp only [Option.bind_some] at h ⊢
        split at h
        · exact h.need hn hc
        · rename_i id b n
          have := hh id (by simp [refs])
          simp only [this]
          split at h
          · rename_i sz m row hid
            try simp only [hid] at h ⊢
            cases hb : Nat.beq sz te.size with
            | false => rw [hb] at h; exact h.no.elim
            | true => rw [hb] at h; exact h.need hn hc
          · exact h.no.elim
        · exact h.no.elim
    · rename_i n e k0 k hk
      try simp only [hk] at h ⊢
      cases hte : T e with
      | none => rw [hte] at h; exact h.no.elim
      | some te =>
        rw [hte] at h
        try simp only [Option.bind_some] at h ⊢
        cases hb : Nat.blt k n with
        | false => rw [hb] at h; exact h.no.elim
        | true =>
          rw [hb] at h
          try simp only [cond_true] at h ⊢
          split at h
          · exact h.setd hn hc
          · exact h.setd hn hc
          · exact h.no.elim
    · exact h.no.elim

theorem cong_index (h : Yv s d v (opIndex T s d t x i)) (hn : s'.n = s.n) (hc : s'.cond) : Yv s' d v (opIndex T s' d t x i) := by
  unfold opIndex at h ⊢
  cases ht : T t with
  | none => rw [ht] at h; exact h.no.elim
  | some ts =>
    rw [ht] at h
    try simp only [Option.bind_some] at h ⊢
    split at h
    · rename_i n e cs k0 k hk
      try simp only [hk] at h ⊢
      cases hte : T e with
      | none => rw [hte] at h; exact h.no.elim
      | some te =>
        rw [hte] at h
        try simp only [Option.bind_some] at h ⊢
        cases ha : te.isAgg with
        | true => rw [ha] at h; exact h.need hn hc
        | false =>
          rw [ha] at h
          try simp only [cond_false] at h ⊢
          cases hb : Nat.beq te.size 1 with
          | false => rw [hb] at h; exact h.no.elim
          | true => rw [hb] at h; exact h.need hn hc
    · rename_i hk
      try simp only [hk] at h ⊢
      exact h.need hn hc
    · exact h.no.elim

theorem cong_load (h : Yv s d v (opLoad T s d t x)) (hn : s'.n = s.n) (hc : s'.cond) (hh : SameAt s s' x) : Yv s' d v (opLoad T s' d t x) := by
  have hm : s'.mem x = s.mem x := by
    unfold St.mem
    split
    · rfl
    · rename_i id idx off; rw [hh id (by simp [refs])]
    · rfl
  unfold opLoad at h ⊢
  rw [hm]
  cases ht : T t with
  | none => rw [ht] at h; exact h.no.elim
  | some ts =>
    rw [ht] at h
    try simp only [Option.bind_some] at h ⊢
    cases hmm : s.mem x with
    | none => rw [hmm] at h; exact h.no.elim
    | some m =>
      rw [hmm] at h
      try simp only [Option.bind_some] at h ⊢
      cases hb : (Nat.ble 1 ts.size && Nat.ble ts.size (m.1.take ts.size).length) with
      | false => rw [hb] at h; exact h.no.elim
      | true => rw [hb] at h; exact h.need hn hc

theorem cong_len (h : Yv s d v (opLen T s d t x)) (hn : s'.n = s.n) (hc : s'.cond) (hh : SameAt s s' x) : Yv s' d v (opLen T s' d t x) := by
  unfold opLen at h ⊢
  cases ht : T t with
  | none => rw [ht] at h; exact h.no.elim
  | some ts =>
    rw [ht] at h
    try simp only [Option.bind_some] at h ⊢
    split at h
    all_goals first
      | exact h.no.elim
      | (rename_i hk; try simp only [hk]
         exact h.setd hn hc)
      | skip
    rename_i id hk
    have := hh id (by simp [refs])
    try simp only [hk, this] at h ⊢
    split at h
    · rename_i es hes; (try simp only [hes]); exact h.setd hn hc
    · exact h.no.elim

theorem rows_same (hh : SameAt s s' x) : s'.rows x = s.rows x := by
  unfold St.rows
  split
  · rfl
  · rfl
  · rfl
  · rename_i id b n; rw [hh id (by simp [refs])]
  · rfl

theorem cong_slice {lo hi : Option AV} (h : Yv s d v (opSlice T s d t x lo hi)) (hn : s'.n = s.n) (hc : s'.cond) (hh : SameAt s s' x) : Yv s' d v (opSlice T s' d t x lo hi) := by
  unfold opSlice at h ⊢
  cases ht : T t with
  | none => rw [ht] at h; exact h.no.elim
  | some ts =>
    rw [ht] at h
    try simp only [Option.bind_some] at h ⊢
    cases hl : lenA x with
    | none => rw [hl] at h; exact h.no.elim
    | some n =>
      rw [hl] at h
      try simp only [Option.bind_some] at h ⊢
      cases hlo : loA lo with
      | none => rw [hlo] at h; exact h.no.elim
      | some l =>
        rw [hlo] at h
        try simp only [Option.bind_some] at h ⊢
        cases hhi : hiA hi n with
        | none => rw [hhi] at h; exact h.no.elim
        | some u =>
          rw [hhi] at h
          try simp only [Option.bind_some] at h ⊢
          split at h
          · rename_i e n0 row hk
            try simp only [hk] at h ⊢
            cases hte : T e with
            | none => rw [hte] at h; exact h.no.elim
            | some te => rw [hte] at h; exact h.need hn hc
          · rename_i e id b n0 hk
            have := hh id (by simp [refs])
            try simp only [hk, this] at h ⊢
            cases hte : T e with
            | none => rw [hte] at h; exact h.no.elim
            | some te =>
              rw [hte] at h
              try simp only [Option.bind_some] at h ⊢
              split at h
              · rename_i sz m row hid
                try simp only [hid] at h ⊢
                cases hb : Nat.beq sz te.size with
                | false => rw [hb] at h; exact h.no.elim
                | true => rw [hb] at h; exact h.need hn hc
              · exact h.no.elim
          · rename_i e hk
            try simp only [hk] at h ⊢
            cases hte : T e with
            | none => rw [hte] at h; exact h.no.elim
            | some te => rw [hte] at h; exact h.need hn hc
          · rename_i b hk
            try simp only [hk] at h ⊢
            exact h.need hn hc
          · exact h.no.elim

theorem cong_build {parts : List (Nat × AV)} (h : Yv s d v (opBuild T s d t parts)) (hn : s'.n = s.n) (hc : s'.cond) : Yv s' d v (opBuild T s' d t parts) := by
  unfold opBuild at h ⊢
  cases ht : T t with
  | none => rw [ht] at h; exact h.no.elim
  | some ts =>
    rw [ht] at h
    try simp only [Option.bind_some] at h ⊢
    split at h
    · rename_i fs hk
      try simp only [hk] at h ⊢
      cases hb : fs.all (fun p => (T p.2).isSome) with
      | false => rw [hb] at h; exact h.no.elim
      | true =>
        rw [hb] at h
        try simp only [cond_true] at h ⊢
        cases hf : fillA (placeOf T fs) ts.zero parts with
        | none => rw [hf] at h; exact h.no.elim
        | some cs => rw [hf] at h; exact h.setd hn hc
    · rename_i n e hk
      try simp only [hk] at h ⊢
      cases hte : T e with
      | none => rw [hte] at h; exact h.no.elim
      | some te =>
        rw [hte] at h
        try simp only [Option.bind_some] at h ⊢
        cases hf : fillA (fun i => some (i * te.size, te.size)) ts.zero parts with
        | none => rw [hf] at h; exact h.no.elim
        | some cs => rw [hf] at h; exact h.setd hn hc
    · exact h.no.elim

theorem cong_buildSlice {len : Nat} {parts : List (Nat × AV)} (hown : own (d.getD 0) = false) (h : Yv s d v (opBuildSlice T own s d t len parts)) (hn : s'.n = s.n) (hc : s'.cond) : Yv s' d v (opBuildSlice T own s' d t len parts) := by
  unfold opBuildSlice at h ⊢
  cases ht : T t with
  | none => rw [ht] at h; exact h.no.elim
  | some ts =>
    rw [ht] at h
    try simp only [Option.bind_some] at h ⊢
    split at h
    · rename_i e hk
      try simp only [hk] at h ⊢
      cases hte : T e with
      | none => rw [hte] at h; exact h.no.elim
      | some te =>
        rw [hte] at h
        try simp only [Option.bind_some] at h ⊢
        cases hb : (Nat.ble (len * te.size) 16777216 && Nat.ble 1 te.size) with
        | false => rw [hb] at h; exact h.no.elim
        | true =>
          rw [hb] at h
          try simp only [cond_true] at h ⊢
          cases hf : fillA (fun i => some (i * te.size, te.size)) ((List.replicate len te.zero).flatten) parts with
          | none => rw [hf] at h; exact h.no.elim
          | some cs =>
            rw [hf] at h
            try simp only [Option.bind_some] at h ⊢
            cases hfr : cs.all isFree with
            | false => rw [hfr] at h; exact h.no.elim
            | true =>
              rw [hfr] at h
              try simp only [cond_true, hown, cond_false] at h ⊢
              cases hl : Nat.beq len 0 with
              | true => rw [hl] at h; exact h.setd hn hc
              | false => rw [hl] at h; exact h.setd hn hc
    · exact h.no.elim

theorem cong_append (hown : own (d.getD 0) = false) (hx : ∀ id b n, x ≠ .sl id b n) (h : Yv s d v (opAppend T own s d t t' x y)) (hn : s'.n = s.n) (hc : s'.cond) (hh : SameAt s s' y) : Yv s' d v (opAppend T own s' d t t' x y) := by
  unfold opAppend at h ⊢
  rw [rows_same hh]
  cases ht : T t with
  | none => rw [ht] at h; exact h.no.elim
  | some ts =>
    rw [ht] at h
    try simp only [Option.bind_some] at h ⊢
    split at h
    · rename_i e hk
      try simp only [hk] at h ⊢
      cases hte : T e with
      | none => rw [hte] at h; exact h.no.elim
      | some te =>
        rw [hte] at h
        try simp only [Option.bind_some] at h ⊢
        cases hb : (Nat.ble 1 te.size && Nat.beq t t') with
        | false => rw [hb] at h; exact h.no.elim
        | true =>
          rw [hb] at h
          try simp only [cond_true] at h ⊢
          cases hr : s.rows y with
          | none => rw [hr] at h; exact h.no.elim
          | some src =>
            rw [hr] at h
            try simp only [Option.bind_some, hown, cond_false] at h ⊢
            split at h
            · exact h.need hn hc
            · exact h.need hn hc
            · rename_i id b n; exact absurd rfl (hx id b n)
            · exact h.no.elim
    · exact h.no.elim

theorem look_core {tk te : TS} {ok : Bool} {M : Option (List (AV × AV))}
    (h : Yv s d v (M.bind fun es => bif keyOk tk y && (bif te.isAgg then false else Nat.beq te.size 1) then
        (findA y es).bind fun r =>
          let v := r.getD (te.zero.headD .undef)
          s.setd d (bif ok then .tup [v, .bool r.isSome] else v)
      else none)) (hn : s'.n = s.n) (hc : s'.cond) :
    Yv s' d v (M.bind fun es => bif keyOk tk y && (bif te.isAgg then false else Nat.beq te.size 1) then
        (findA y es).bind fun r =>
          let v := r.getD (te.zero.headD .undef)
          s'.setd d (bif ok then .tup [v, .bool r.isSome] else v)
      else none) := by
  cases M with
  | none => exact h.no.elim
  | some es =>
    rw [Option.bind_some] at h ⊢
    cases hb : (keyOk tk y && (bif te.isAgg then false else Nat.beq te.size 1)) with
    | false => rw [hb] at h; exact h.no.elim
    | true =>
      rw [hb] at h
      rw [cond_true] at h ⊢
      cases hfa : findA y es with
      | none => rw [hfa] at h; exact h.no.elim
      | some r => rw [hfa] at h; exact h.setd hn hc

theorem cong_lookup {ok : Bool} (h : Yv s d v (opLookup T s d t x y ok)) (hn : s'.n = s.n) (hc : s'.cond) (hh : SameAt s s' x) : Yv s' d v (opLookup T s' d t x y ok) := by
  unfold opLookup at h ⊢
  cases ht : T t with
  | none => rw [ht] at h; exact h.no.elim
  | some ts =>
    rw [ht] at h
    simp only [Option.bind_some] at h ⊢
    cases hk : ts.kind with
    | map kt et =>
      simp only [hk] at h ⊢
      cases htk : T kt with
      | none => rw [htk] at h; exact h.no.elim
      | some tk =>
        cases hte : T et with
        | none => rw [htk, hte] at h; exact h.no.elim
        | some te =>
          rw [htk, hte] at h
          simp only [Option.bind_some] at h ⊢
          cases x with
          | mp id =>
            have hid := hh id (by simp [refs])
            simp only [hid]
            exact look_core h hn hc
          | nilmap => exact look_core h hn hc
          | _ => exact h.no.elim
    | _ => simp only [hk] at h; exact h.no.elim

end
end Go.Av

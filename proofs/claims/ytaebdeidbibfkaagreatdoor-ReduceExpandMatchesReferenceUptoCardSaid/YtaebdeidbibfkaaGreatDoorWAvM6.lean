/- The Av framework: contracts of functions. No law is proved here. -/
import Derived.Test.YtaebdeidbibfkaaGreatDoorWAvM5
import Derived.Orders
set_option linter.unusedSimpArgs false
set_option linter.unusedVariables false
set_option linter.unusedSectionVars false
namespace Go.Av
variable [Drawn]

theorem bind_congr1 {α β : Type} {x y : Option α} {f : α → Option β} (h : x = y) : x.bind f = y.bind f := by rw [h]
theorem map_congr1 {α β : Type} {x y : Option α} {f : α → β} (h : x = y) : x.map f = y.map f := by rw [h]
theorem cond_congr1 {α : Type} {b b' : Bool} {x y : α} (h : b = b') : (bif b then x else y) = bif b' then x else y := by rw [h]

def Fn (P : Program) (f : FuncId) : Prop := ∃ fn, P.funcs[f]? = some fn ∧ fn.body.isSome = true ∧ fn.name ≠ "runtime.NumGoroutine"

/-- A function's contract: at these arguments it ends with this result and these new objects. -/
structure Con (P : Program) (G : List (Nat × AV)) (f : FuncId) (args : List AV) (r : AV) (H' : List AObj) : Prop where
  fn : Fn P f
  calls : CallsA P G f args [] fun r' H'' => r' = r ∧ H'' = H'

inductive All2 (R : AV → AV → Prop) : List AV → List AV → Prop
  | nil : All2 R [] []
  | cons {a b as bs} (h : R a b) (t : All2 R as bs) : All2 R (a :: as) (b :: bs)

theorem All2.len {R : AV → AV → Prop} {as bs : List AV} (h : All2 R as bs) : bs.length = as.length := by
  induction h with
  | nil => rfl
  | cons _ _ ih => simp [ih]

theorem All2.get {R : AV → AV → Prop} {as bs : List AV} (h : All2 R as bs) : ∀ (i : Nat) (a b : AV), as[i]? = some a → bs[i]? = some b → R a b := by
  induction h with
  | nil => intro i a b ha; simp at ha
  | cons h _ ih =>
    intro i a b ha hb
    cases i with
    | zero => simp at ha hb; subst ha; subst hb; exact h
    | succ i => exact ih i a b (by simpa using ha) (by simpa using hb)

section
variable {hp : List AObj} {L : List (Option Nat)} {base : Nat}
theorem AvLe.tups {cs cs' : List AV} (h : All2 (AvLe hp L base) cs cs') : AvLe hp L base (.tup cs) (.tup cs') := .tup _ _ h.len h.get
theorem AvLe.aggs {cs cs' : List AV} (h : All2 (AvLe hp L base) cs cs') : AvLe hp L base (.agg cs) (.agg cs') := .agg _ _ h.len h.get

/-- An owned slice is handed on frozen. -/
theorem AvLe.frz' {id b n n' : Nat} {sz m : Nat} {row row' : Nat → List AV} (h : hp[id]? = some (.arr sz m row)) (hL : L = []) (hb : base = 0) (hn' : n' = n) (hn : b + n ≤ m) (hr : ∀ i, i < n → row (b + i) = row' i) : AvLe hp L base (.sl id b n) (.list n' row') := by
  subst hn'
  exact .frz id b n' sz m row row' h (by omega) (by rw [hL]; simp) hn hr

theorem AvLe.eq {v v' : AV} (h : v = v') (hf : isFree v = true) : AvLe hp L base v v' := by subst h; exact .refl _ hf

theorem AvLe.list' {n n' : Nat} {row row' : Nat → List AV} (hn : n' = n) (h : ∀ i, i < n → row i = row' i) : AvLe hp L base (.list n row) (.list n' row') := by
  subst hn
  exact .list _ _ _ h
end

section
variable {P : Program} {X : Ctx} {T : TT} {own : Nat → Bool}

theorem con_of (hT : TTOk P T) {f : FuncId} {fn : Func} {c : Code} (hf : P.funcs[f]? = some fn) (hb : fn.body = some c) {n : Nat} (hn : fn.ntmps = n) {rs : List ResultVar} (hrs : fn.results.toList = rs)
    (hname : (fn.name == "runtime.NumGoroutine") = false) {args : List AV} {G : List (Nat × AV)} {r : AV} {H' : List AObj} (hlen : args.length ≤ n)
    (h : Wp P X0 c (endQ T rs 0 fun r' H'' => r' = r ∧ H'' = H') { ch := argsCh 0 args, hp := [], base := 0, n := n, cond := True, gl := G }) : Con P G f args r H' :=
  ⟨⟨fn, hf, by rw [hb]; rfl, by simpa using hname⟩, callsA_of hT hf hb hn hrs hlen h⟩

theorem Con.eq {G : List (Nat × AV)} {f : FuncId} {args args' : List AV} {r r' : AV} {H H' : List AObj} (h : Con P G f args r H) (ha : args = args') (hr : r = r') (hH : H = H') : Con P G f args' r' H' := by subst ha; subst hr; subst hH; exact h

/-- A function's end. -/
theorem endQ_ret {rs : List ResultVar} {s : St} {v r : AV} {H' : List AObj} (L : List (Option Nat)) (hv : resA T s rs = some v) (hl : RelocH L 0 s.hp H') (hle : AvLe s.hp L 0 v r) : endQ T rs 0 (fun r' H'' => r' = r ∧ H'' = H') .ret s :=
  ⟨.inr rfl, v, hv, L, r, H', hl, hle, rfl, rfl⟩

/-- A function's end: nothing of the heap is handed on. -/
theorem endQ_ret0 {rs : List ResultVar} {s : St} {v r : AV} (hv : resA T s rs = some v) (hle : AvLe s.hp [] 0 v r) : endQ T rs 0 (fun r' H'' => r' = r ∧ H'' = []) .ret s :=
  endQ_ret [] hv relocH_nil hle

/-- A call within a region. -/
theorem regv_call {ops : Array Oper} {o : Oper} {os : List Oper} {K : St → Prop} {s s' : St} {c : Call} {f : Operand} {g : FuncId} {ags : List AV} {p1 : List AV} {pc : Prop} {pl : Bool} {r : AV} {H' : List AObj}
    (hc : Con P s.gl g p1 r H') (ho : o.op = .call c) (hcal : c.callee = .value f) (hg : guardA ops s o = some true) (hcl : calleeA s f c.args.toList = some (g, ags)) (hp : toArgs s.hp ags = some (p1, pc, pl)) (hpc : pc)
    (hl : pl = true → H' = [] ∧ isScalar r = true) (hs : ({ s with hp := s.hp ++ H'.map (objShift s.hp.length), cond := True } : St).setd o.dst (shift s.hp.length r) = some s') (hk : regv P T own ops os K s') : regv P T own ops (o :: os) K s := by
  refine regv_op hg ?_
  unfold opv
  rw [ho]
  simp only
  rw [hcal]
  simp only
  exact ⟨(g, ags), hcl, .inl ⟨hc.fn, (p1, pc, pl), hp, hpc, hc.calls.mono fun r' H'' ⟨h1, h2⟩ => by subst h1; subst h2; exact ⟨hl, s', hs, hk⟩⟩⟩

theorem loopQ_next {α : Type} {S : α → St} {m : α → Nat} {G : α → Prop} {Q : Exit → St → Prop} {x : α} {s : St} (y : α) (h1 : G y) (h2 : m y < m x) (h3 : Reloc s (S y)) : loopQ S m G Q x .normal s := ⟨y, h1, h2, h3⟩

theorem wrap_succ (i : Nat) (h : i ≤ 4611686018427387904) : IntKind.i64.wrap ((i : Int) + 1) = ((i + 1 : Nat) : Int) := by rw [IntKind.wrap_i64]; omega

theorem regv_nil {ops : Array Oper} {K : St → Prop} {s : St} (h : K s) : regv P T own ops [] K s := h

theorem regv_isnil {ops : Array Oper} {o : Oper} {os : List Oper} {K : St → Prop} {s : St} {op : BinOp} {t u : TypeId} {x y : Operand} {n : Nat} {row : Nat → List AV} {ts : TS} {e : TypeId}
    (ho : o.op = .binOp op t x y u) (hop : op = .eql ∨ op = .neq) (hx : s.ev x = .list n row) (hy : s.ev y = .nilsl) (hts : T t = some ts) (hk : ts.kind = .slice e) (hg : guardA ops s o = some true)
    (h : ∀ b : Bool, (b = true → n = 0) → ∃ s', s.setd o.dst (.bool (if op = .eql then b else !b)) = some s' ∧ regv P T own ops os K { s' with cond := True }) : regv P T own ops (o :: os) K s := by
  refine regv_op hg ?_
  unfold opv
  rw [ho]
  exact .inr (.inl ⟨op, t, x, y, u, n, row, ts, e, ho, hop, hx, hy, hts, hk, h⟩)


theorem regv_next1 {ops : Array Oper} {o : Oper} {os : List Oper} {K : St → Prop} {s s' : St} {it : Operand} {b : ByteArray} {p id : Nat} (ho : o.op = .next it true) (hi : s.ev it = .hptr id 0 0) (hob : s.hp[id]? = some (.siter b p)) (hlt : p < b.size) (hg : guardA ops s o = some true)
    (hs : ({ s with hp := s.hp.set id (.siter b (p + (Utf8.decode b p).2)) } : St).setd o.dst (.tup [.bool true, .int .i64 (p : Int), .int .i32 ((Utf8.decode b p).1 : Int)]) = some s') (hk : regv P T own ops os K { s' with cond := True }) : regv P T own ops (o :: os) K s := by
  refine regv_op hg ?_
  unfold opv
  rw [ho]
  exact .inr (.inr (.inl ⟨it, b, p, id, ho, hi, hob, .inl ⟨hlt, s', hs, hk⟩⟩))

theorem regv_next0 {ops : Array Oper} {o : Oper} {os : List Oper} {K : St → Prop} {s s' : St} {it : Operand} {b : ByteArray} {p id : Nat} (ho : o.op = .next it true) (hi : s.ev it = .hptr id 0 0) (hob : s.hp[id]? = some (.siter b p)) (hlt : ¬ p < b.size) (hg : guardA ops s o = some true)
    (hs : s.setd o.dst (.tup [.bool false]) = some s') (hk : regv P T own ops os K { s' with cond := True }) : regv P T own ops (o :: os) K s := by
  refine regv_op hg ?_
  unfold opv
  rw [ho]
  exact .inr (.inr (.inl ⟨it, b, p, id, ho, hi, hob, .inr ⟨hlt, s', hs, hk⟩⟩))

theorem regv_nextm0 {ops : Array Oper} {o : Oper} {os : List Oper} {K : St → Prop} {s s' : St} {it : Operand} {id : Nat} {cur : Option (AV × AV)} {left : List (AV × AV)} (ho : o.op = .next it false) (hi : s.ev it = .hptr id 0 0) (hob : s.hp[id]? = some (.miter cur left)) (hl : left = []) (hg : guardA ops s o = some true)
    (hs : s.setd o.dst (.tup [.bool false]) = some s') (hk : regv P T own ops os K { s' with cond := True }) : regv P T own ops (o :: os) K s := by
  refine regv_op hg ?_
  unfold opv
  rw [ho]
  exact .inr (.inr (.inr (.inl ⟨it, id, cur, left, ho, hi, hob, .inl ⟨hl, s', hs, hk⟩⟩)))

theorem regv_nextm1 {ops : Array Oper} {o : Oper} {os : List Oper} {K : St → Prop} {s : St} {it : Operand} {id : Nat} {cur : Option (AV × AV)} {left : List (AV × AV)} (ho : o.op = .next it false) (hi : s.ev it = .hptr id 0 0) (hob : s.hp[id]? = some (.miter cur left)) (hl : left ≠ []) (hg : guardA ops s o = some true)
    (hk : ∀ (i : Nat) e, left[i]? = some e → ∃ s', ({ s with hp := s.hp.set id (.miter (some e) (left.eraseIdx i)) } : St).setd o.dst (.tup [.bool true, e.1, e.2]) = some s' ∧ regv P T own ops os K { s' with cond := True }) : regv P T own ops (o :: os) K s := by
  refine regv_op hg ?_
  unfold opv
  rw [ho]
  exact .inr (.inr (.inr (.inl ⟨it, id, cur, left, ho, hi, hob, .inr ⟨hl, hk⟩⟩)))

theorem regv_entrym {ops : Array Oper} {o : Oper} {os : List Oper} {K : St → Prop} {s s' : St} {it : Operand} {id : Nat} {e : AV × AV} {left : List (AV × AV)} (ho : o.op = .entry it) (hi : s.ev it = .hptr id 0 0) (hob : s.hp[id]? = some (.miter (some e) left)) (hg : guardA ops s o = some true)
    (hs : s.setd o.dst (.tup [e.1, e.2]) = some s') (hk : regv P T own ops os K { s' with cond := True }) : regv P T own ops (o :: os) K s := by
  refine regv_op hg ?_
  unfold opv
  rw [ho]
  exact .inr (.inr (.inr (.inr (.inr ⟨it, id, e, left, ho, hi, hob, s', hs, hk⟩))))

theorem regv_rangem {ops : Array Oper} {o : Oper} {os : List Oper} {K : St → Prop} {s s' : St} {t kt vt : TypeId} {x : Operand} {id : Nat} {es : List (AV × AV)} {ts : TS} (ho : o.op = .range t x) (hx : s.ev x = .mp id) (hob : s.hp[id]? = some (.map es)) (hbs : s.base ≤ id) (hts : T t = some ts) (htk : ts.kind = .map kt vt)
    (hs : ({ s with hp := s.hp.set id .dead ++ [.miter none es] } : St).setd o.dst (.hptr s.hp.length 0 0) = some s') (hg : guardA ops s o = some true) (hk : regv P T own ops os K { s' with cond := True }) : regv P T own ops (o :: os) K s := by
  refine regv_op hg ?_
  unfold opv
  rw [ho]
  exact .inr (.inr (.inr (.inr (.inl ⟨t, x, id, es, ts, kt, vt, ho, hx, hob, hbs, hts, htk, s', hs, hk⟩))))

end
end Go.Av

namespace Go.Av
variable [Drawn]

/-- The result of an operation that yields a value and does nothing else. -/
def Yv (s : St) (d : Option Nat) (v : AV) (o : Option St) : Prop := ∃ r, o = some r ∧ r.cond ∧ s.setd d v = some { r with cond := s.cond }

section
variable {s s' : St} {d : Option Nat} {v v0 : AV} {T : TT} {own : Nat → Bool} {t t' : TypeId} {x y i : AV}

theorem Yv.setd (h : Yv s d v (s.setd d v0)) (hn : s'.n = s.n) (hc : s'.cond) : Yv s' d v (s'.setd d v0) := by
  obtain ⟨r, h1, h2, h3⟩ := h
  cases d with
  | none => exact ⟨s', rfl, hc, rfl⟩
  | some d =>
    simp only [St.setd] at h1 h3 ⊢
    cases hb : Nat.blt d s.n with
    | false => rw [hb] at h1; cases h1
    | true =>
      rw [hb, cond_true, Option.some.injEq] at h1 h3
      subst h1
      have : v = v0 := by injection h3 with e1 e2; injection e1 with e3 e4; injection e3
      subst this
      rw [← hn] at hb
      exact ⟨{ s' with ch := (d, v) :: s'.ch }, by simp only [St.setd, hb, cond_true], hc, by simp only [St.setd, hb, cond_true]⟩

theorem Yv.need {c : Prop} (h : Yv s d v ((s.need c).setd d v0)) (hn : s'.n = s.n) (hc : s'.cond) : Yv s' d v ((s'.need c).setd d v0) := by
  obtain ⟨r, h1, h2, h3⟩ := h
  cases d with
  | none =>
    have e : s.need c = r := by simpa [St.setd] using h1
    subst e
    exact ⟨s'.need c, rfl, ⟨hc, h2.2⟩, rfl⟩
  | some d =>
    simp only [St.setd, St.need] at h1 h3 ⊢
    cases hb : Nat.blt d s.n with
    | false => rw [hb] at h1; cases h1
    | true =>
      rw [hb, cond_true, Option.some.injEq] at h1 h3
      subst h1
      have : v = v0 := by injection h3 with e1 e2; injection e1 with e3 e4; injection e3
      subst this
      rw [← hn] at hb
      exact ⟨{ s' with ch := (d, v) :: s'.ch, cond := s'.cond ∧ c }, by simp only [St.setd, hb, cond_true], ⟨hc, h2.2⟩, by simp only [St.setd, hb, cond_true]⟩

theorem Yv.no (h : Yv s d v none) : False := by obtain ⟨r, h, _⟩ := h; cases h

theorem cong_bin {op : BinOp} (h : Yv s d v (opBin T s d op t x y)) (hn : s'.n = s.n) (hc : s'.cond) : Yv s' d v (opBin T s' d op t x y) := by
  unfold opBin at h ⊢
  split at h
  · rename_i k a k' b
    cases hk : decide (k = k') with
    | false => rw [hk] at h; exact h.no.elim
    | true =>
      rw [hk, cond_true] at h
      simp only [hk, cond_true]
      cases hr : intBin op k a b with
      | none => rw [hr] at h; exact h.no.elim
      | some r => rw [hr] at h; exact h.need hn hc
  · rename_i a b
    try simp only at h ⊢
    cases hr : strBin op a b with
    | none => rw [hr] at h; exact h.no.elim
    | some r => rw [hr] at h; exact h.need hn hc
  · try simp only at h ⊢
    cases ht : T t with
    | none => rw [ht] at h; exact h.no.elim
    | some ts =>
      rw [ht, Option.bind_some] at h
      simp only [Option.bind_some]
      split at h
      · exact h.setd hn hc
      · exact h.setd hn hc
      · exact h.no.elim
  · rename_i as bs
    try simp only at h ⊢
    cases ht : T t with
    | none => rw [ht] at h; exact h.no.elim
    | some ts =>
      rw [ht, Option.bind_some] at h
      simp only [Option.bind_some]
      cases hb : (ts.isAgg && (!ts.eq.isEmpty) && cksB ts.eq as && cksB ts.eq bs) with
      | false => rw [hb] at h; exact h.no.elim
      | true =>
        rw [hb, cond_true] at h
        rw [cond_true]
        cases hr : eqC as bs with
        | none => rw [hr] at h; exact h.no.elim
        | some r =>
          rw [hr, Option.bind_some] at h
          rw [Option.bind_some]
          cases op <;> first | exact h.setd hn hc | exact h.no.elim
  · exact h.no.elim

theorem cong_un {op : UnOp} (h : Yv s d v (opUn s d op x)) (hn : s'.n = s.n) (hc : s'.cond) : Yv s' d v (opUn s' d op x) := by
  unfold opUn at h ⊢
  split at h
  · exact h.setd hn hc
  · exact h.setd hn hc
  · exact h.no.elim

theorem cong_convert (h : Yv s d v (opConvert T s d t t' x)) (hn : s'.n = s.n) (hc : s'.cond) : Yv s' d v (opConvert T s' d t t' x) := by
  unfold opConvert at h ⊢
  cases ht : T t with
  | none => rw [ht] at h; exact h.no.elim
  | some ts =>
    cases ht' : T t' with
    | none => rw [ht, ht'] at h; exact h.no.elim
    | some td =>
      rw [ht, ht'] at h
      try simp only [Option.bind_some] at h ⊢
      split at h
      · rename_i hk; (try simp only [hk]); exact h.setd hn hc
      · rename_i hk; (try simp only [hk]); exact h.setd hn hc
      · rename_i hk; (try simp only [hk]); exact h.setd hn hc
      · rename_i hk
        (try simp only [hk])
        unfold opBytesStr at h ⊢
        split at h
        · rename_i e hke
          (try simp only [hke])
          cases hte : T e with
          | none => rw [hte] at h; exact h.no.elim
          | some te =>
            rw [hte] at h
            try simp only [Option.bind_some] at h ⊢
            split at h
            · rename_i hku; (try simp only [hku]); exact h.need hn hc
            · exact h.no.elim
        · exact h.no.elim
      · exact h.no.elim

theorem cong_extract {k : Nat} (h : Yv s d v (opExtract s d x k)) (hn : s'.n = s.n) (hc : s'.cond) : Yv s' d v (opExtract s' d x k) := by
  unfold opExtract at h ⊢
  split at h
  · rename_i vs
    try simp only at h ⊢
    cases hv : vs[k]? with
    | none => rw [hv] at h; exact h.no.elim
    | some u => rw [hv] at h; exact h.setd hn hc
  · exact h.no.elim

theorem cong_iface (h : Yv s d v (opMakeInterface T s d t x)) (hn : s'.n = s.n) (hc : s'.cond) : Yv s' d v (opMakeInterface T s' d t x) := by
  unfold opMakeInterface at h ⊢
  cases ht : T t with
  | none => rw [ht] at h; exact h.no.elim
  | some ts =>
    rw [ht] at h
    try simp only [Option.bind_some] at h ⊢
    cases hb : (isFree x && ts.kind.solid) with
    | false => rw [hb] at h; exact h.no.elim
    | true => rw [hb] at h; exact h.setd hn hc

theorem cong_field {f : Nat} (h : Yv s d v (opField T s d t x f)) (hn : s'.n = s.n) (hc : s'.cond) : Yv s' d v (opField T s' d t x f) := by
  unfold opField at h ⊢
  cases ht : T t with
  | none => rw [ht] at h; exact h.no.elim
  | some ts =>
    rw [ht] at h
    try simp only [Option.bind_some] at h ⊢
    split at h
    · rename_i fs cs hk
      try simp only [hk] at h ⊢
      cases hf : fs[f]? with
      | none => rw [hf] at h; exact h.no.elim
      | some p =>
        rw [hf] at h
        try simp only [Option.bind_some] at h ⊢
        cases htf : T p.2 with
        | none => rw [htf] at h; exact h.no.elim
        | some tf =>
          rw [htf] at h
          try simp only [Option.bind_some] at h ⊢
          cases hb : (tf.isAgg || Nat.beq tf.size 1) with
          | false => rw [hb] at h; exact h.no.elim
          | true =>
            rw [hb] at h
            try simp only [cond_true] at h ⊢
            cases hp : partA tf cs p.1 with
            | none => rw [hp] at h; exact h.no.elim
            | some u => rw [hp] at h; exact h.setd hn hc
    · exact h.no.elim

theorem cong_fieldAddr {f : Nat} (h : Yv s d v (opFieldAddr T s d t x f)) (hn : s'.n = s.n) (hc : s'.cond) : Yv s' d v (opFieldAddr T s' d t x f) := by
  unfold opFieldAddr at h ⊢
  cases ht : T t with
  | none => rw [ht] at h; exact h.no.elim
  | some ts =>
    rw [ht] at h
    try simp only [Option.bind_some] at h ⊢
    split at h
    · rename_i fs hk
      try simp only [hk] at h ⊢
      cases hf : fs[f]? with
      | none => rw [hf] at h; exact h.no.elim
      | some p =>
        rw [hf] at h
        try simp only [Option.bind_some] at h ⊢
        cases htf : T p.2 with
        | none => rw [htf] at h; exact h.no.elim
        | some tf =>
          rw [htf] at h
          try simp only [Option.bind_some] at h ⊢
          cases hb : Nat.ble 1 tf.size with
          | false => rw [hb] at h; exact h.no.elim
          | true =>
            rw [hb] at h
            try simp only [cond_true] at h ⊢
            split at h
            · exact h.setd hn hc
            · exact h.setd hn hc
            · exact h.no.elim
    · exact h.no.elim

/-- The objects that a value names. -/
def refs : AV → List Nat
  | .sl id _ _ => [id]
  | .hptr id _ _ => [id]
  | .mp id => [id]
  | _ => []

def SameAt (s s' : St) (x : AV) : Prop := ∀ id ∈ refs x, s'.hp[id]? = s.hp[id]?

theorem cong_indexAddr (h : Yv s d v (opIndexAddr T s d t x i)) (hn : s'.n = s.n) (hc : s'.cond) (hh : SameAt s s' x) : Yv s' d v (opIndexAddr T s' d t x i) := by
  unfold opIndexAddr at h ⊢
  cases ht : T t with
  | none => rw [ht] at h; exact h.no.elim
  | some ts =>
    rw [ht] at h
    try simp only [Option.bind_some] at h ⊢
    split at h
    · rename_i e k0 k hk
      try simp only [hk] at h ⊢
      cases hte : T e with
      | none => rw [hte] at h; exact h.no.elim
      | some te =>
        rw [hte] at h
        try simp only [Option.bind_some] at h ⊢
        split at h
        · exact h.need hn hc
        · rename_i id b n
          have := hh id (by simp [refs])
          simp only [this]
          split at h
          · rename_i sz m row hid
            try simp only [hid] at h ⊢
            cases hb : Nat.beq sz te.size with
            | false => rw [hb] at h; exact h.no.elim
            | true => rw [hb] at h; exact h.need hn hc
          · exact h.no.elim
        · exact h.no.elim
    · rename_i n e k0 k hk
      try simp only [hk] at h ⊢
      cases hte : T e with
      | none => rw [hte] at h; exact h.no.elim
      | some te =>
        rw [hte] at h
        try simp only [Option.bind_some] at h ⊢
        cases hb : Nat.blt k n with
        | false => rw [hb] at h; exact h.no.elim
        | true =>
          rw [hb] at h
          try simp only [cond_true] at h ⊢
          split at h
          · exact h.setd hn hc
          · exact h.setd hn hc
          · exact h.no.elim
    · exact h.no.elim

theorem cong_index (h : Yv s d v (opIndex T s d t x i)) (hn : s'.n = s.n) (hc : s'.cond) : Yv s' d v (opIndex T s' d t x i) := by
  unfold opIndex at h ⊢
  cases ht : T t with
  | none => rw [ht] at h; exact h.no.elim
  | some ts =>
    rw [ht] at h
    try simp only [Option.bind_some] at h ⊢
    split at h
    · rename_i n e cs k0 k hk
      try simp only [hk] at h ⊢
      cases hte : T e with
      | none => rw [hte] at h; exact h.no.elim
      | some te =>
        rw [hte] at h
        try simp only [Option.bind_some] at h ⊢
        cases ha : te.isAgg with
        | true => rw [ha] at h; exact h.need hn hc
        | false =>
          rw [ha] at h
          try simp only [cond_false] at h ⊢
          cases hb : Nat.beq te.size 1 with
          | false => rw [hb] at h; exact h.no.elim
          | true => rw [hb] at h; exact h.need hn hc
    · rename_i hk
      try simp only [hk] at h ⊢
      exact h.need hn hc
    · exact h.no.elim

theorem cong_load (h : Yv s d v (opLoad T s d t x)) (hn : s'.n = s.n) (hc : s'.cond) (hh : SameAt s s' x) : Yv s' d v (opLoad T s' d t x) := by
  have hm : s'.mem x = s.mem x := by
    unfold St.mem
    split
    · rfl
    · rename_i id idx off; rw [hh id (by simp [refs])]
    · rfl
  unfold opLoad at h ⊢
  rw [hm]
  cases ht : T t with
  | none => rw [ht] at h; exact h.no.elim
  | some ts =>
    rw [ht] at h
    try simp only [Option.bind_some] at h ⊢
    cases hmm : s.mem x with
    | none => rw [hmm] at h; exact h.no.elim
    | some m =>
      rw [hmm] at h
      try simp only [Option.bind_some] at h ⊢
      cases hb : (Nat.ble 1 ts.size && Nat.ble ts.size (m.1.take ts.size).length) with
      | false => rw [hb] at h; exact h.no.elim
      | true => rw [hb] at h; exact h.need hn hc

theorem cong_len (h : Yv s d v (opLen T s d t x)) (hn : s'.n = s.n) (hc : s'.cond) (hh : SameAt s s' x) : Yv s' d v (opLen T s' d t x) := by
  unfold opLen at h ⊢
  cases ht : T t with
  | none => rw [ht] at h; exact h.no.elim
  | some ts =>
    rw [ht] at h
    try simp only [Option.bind_some] at h ⊢
    split at h
    all_goals first
      | exact h.no.elim
      | (rename_i hk; try simp only [hk]
         exact h.setd hn hc)
      | skip
    rename_i id hk
    have := hh id (by simp [refs])
    try simp only [hk, this] at h ⊢
    split at h
    · rename_i es hes; (try simp only [hes]); exact h.setd hn hc
    · exact h.no.elim

theorem rows_same (hh : SameAt s s' x) : s'.rows x = s.rows x := by
  unfold St.rows
  split
  · rfl
  · rfl
  · rfl
  · rename_i id b n; rw [hh id (by simp [refs])]
  · rfl

theorem cong_slice {lo hi : Option AV} (h : Yv s d v (opSlice T s d t x lo hi)) (hn : s'.n = s.n) (hc : s'.cond) (hh : SameAt s s' x) : Yv s' d v (opSlice T s' d t x lo hi) := by
  unfold opSlice at h ⊢
  cases ht : T t with
  | none => rw [ht] at h; exact h.no.elim
  | some ts =>
    rw [ht] at h
    try simp only [Option.bind_some] at h ⊢
    cases hl : lenA x with
    | none => rw [hl] at h; exact h.no.elim
    | some n =>
      rw [hl] at h
      try simp only [Option.bind_some] at h ⊢
      cases hlo : loA lo with
      | none => rw [hlo] at h; exact h.no.elim
      | some l =>
        rw [hlo] at h
        try simp only [Option.bind_some] at h ⊢
        cases hhi : hiA hi n with
        | none => rw [hhi] at h; exact h.no.elim
        | some u =>
          rw [hhi] at h
          try simp only [Option.bind_some] at h ⊢
          split at h
          · rename_i e n0 row hk
            try simp only [hk] at h ⊢
            cases hte : T e with
            | none => rw [hte] at h; exact h.no.elim
            | some te => rw [hte] at h; exact h.need hn hc
          · rename_i e id b n0 hk
            have := hh id (by simp [refs])
            try simp only [hk, this] at h ⊢
            cases hte : T e with
            | none => rw [hte] at h; exact h.no.elim
            | some te =>
              rw [hte] at h
              try simp only [Option.bind_some] at h ⊢
              split at h
              · rename_i sz m row hid
                try simp only [hid] at h ⊢
                cases hb : Nat.beq sz te.size with
                | false => rw [hb] at h; exact h.no.elim
                | true => rw [hb] at h; exact h.need hn hc
              · exact h.no.elim
          · rename_i e hk
            try simp only [hk] at h ⊢
            cases hte : T e with
            | none => rw [hte] at h; exact h.no.elim
            | some te => rw [hte] at h; exact h.need hn hc
          · rename_i b hk
            try simp only [hk] at h ⊢
            exact h.need hn hc
          · exact h.no.elim

theorem cong_build {parts : List (Nat × AV)} (h : Yv s d v (opBuild T s d t parts)) (hn : s'.n = s.n) (hc : s'.cond) : Yv s' d v (opBuild T s' d t parts) := by
  unfold opBuild at h ⊢
  cases ht : T t with
  | none => rw [ht] at h; exact h.no.elim
  | some ts =>
    rw [ht] at h
    try simp only [Option.bind_some] at h ⊢
    split at h
    · rename_i fs hk
      try simp only [hk] at h ⊢
      cases hb : fs.all (fun p => (T p.2).isSome) with
      | false => rw [hb] at h; exact h.no.elim
      | true =>
        rw [hb] at h
        try simp only [cond_true] at h ⊢
        cases hf : fillA (placeOf T fs) ts.zero parts with
        | none => rw [hf] at h; exact h.no.elim
        | some cs => rw [hf] at h; exact h.setd hn hc
    · rename_i n e hk
      try simp only [hk] at h ⊢
      cases hte : T e with
      | none => rw [hte] at h; exact h.no.elim
      | some te =>
        rw [hte] at h
        try simp only [Option.bind_some] at h ⊢
        cases hf : fillA (fun i => some (i * te.size, te.size)) ts.zero parts with
        | none => rw [hf] at h; exact h.no.elim
        | some cs => rw [hf] at h; exact h.setd hn hc
    · exact h.no.elim

theorem cong_makeSlice (hown : own (d.getD 0 + 2000) = true) (h : Yv s d v (opMakeSlice T own s d t x y)) (hn : s'.n = s.n) (hc : s'.cond) : Yv s' d v (opMakeSlice T own s' d t x y) := by
  unfold opMakeSlice at h ⊢
  cases ht : T t with
  | none => rw [ht] at h; exact h.no.elim
  | some ts =>
    rw [ht] at h
    try simp only [Option.bind_some] at h ⊢
    split at h
    · rename_i e n m hk
      try simp only [hk] at h ⊢
      cases hte : T e with
      | none => rw [hte] at h; exact h.no.elim
      | some te =>
        rw [hte] at h
        try simp only [Option.bind_some] at h ⊢
        cases hb : Nat.ble 1 te.size with
        | false => rw [hb] at h; exact h.no.elim
        | true =>
          rw [hb, hown] at h
          rw [hown]
          exact h.need hn hc
    · exact h.no.elim

theorem cong_buildSlice {len : Nat} {parts : List (Nat × AV)} (hown : own (d.getD 0) = false) (h : Yv s d v (opBuildSlice T own s d t len parts)) (hn : s'.n = s.n) (hc : s'.cond) : Yv s' d v (opBuildSlice T own s' d t len parts) := by
  unfold opBuildSlice at h ⊢
  cases ht : T t with
  | none => rw [ht] at h; exact h.no.elim
  | some ts =>
    rw [ht] at h
    try simp only [Option.bind_some] at h ⊢
    split at h
    · rename_i e hk
      try simp only [hk] at h ⊢
      cases hte : T e with
      | none => rw [hte] at h; exact h.no.elim
      | some te =>
        rw [hte] at h
        try simp only [Option.bind_some] at h ⊢
        cases hb : (Nat.ble (len * te.size) 16777216 && Nat.ble 1 te.size) with
        | false => rw [hb] at h; exact h.no.elim
        | true =>
          rw [hb] at h
          try simp only [cond_true] at h ⊢
          cases hf : fillA (fun i => some (i * te.size, te.size)) ((List.replicate len te.zero).flatten) parts with
          | none => rw [hf] at h; exact h.no.elim
          | some cs =>
            rw [hf] at h
            try simp only [Option.bind_some] at h ⊢
            cases hfr : cs.all isFree with
            | false => rw [hfr] at h; exact h.no.elim
            | true =>
              rw [hfr] at h
              try simp only [cond_true, hown, cond_false] at h ⊢
              cases hl : Nat.beq len 0 with
              | true => rw [hl] at h; exact h.setd hn hc
              | false => rw [hl] at h; exact h.setd hn hc
    · exact h.no.elim

theorem cong_append (hown : own (d.getD 0) = false) (hx : ∀ id b n, x ≠ .sl id b n) (h : Yv s d v (opAppend T own s d t t' x y)) (hn : s'.n = s.n) (hc : s'.cond) (hh : SameAt s s' y) : Yv s' d v (opAppend T own s' d t t' x y) := by
  unfold opAppend at h ⊢
  rw [rows_same hh]
  cases ht : T t with
  | none => rw [ht] at h; exact h.no.elim
  | some ts =>
    rw [ht] at h
    try simp only [Option.bind_some] at h ⊢
    split at h
    · rename_i e hk
      try simp only [hk] at h ⊢
      cases hte : T e with
      | none => rw [hte] at h; exact h.no.elim
      | some te =>
        rw [hte] at h
        try simp only [Option.bind_some] at h ⊢
        cases hb : (Nat.ble 1 te.size && Nat.beq t t') with
        | false => rw [hb] at h; exact h.no.elim
        | true =>
          rw [hb] at h
          try simp only [cond_true] at h ⊢
          cases hr : s.rows y with
          | none => rw [hr] at h; exact h.no.elim
          | some src =>
            rw [hr] at h
            try simp only [Option.bind_some, hown, cond_false] at h ⊢
            split at h
            · exact h.need hn hc
            · exact h.need hn hc
            · rename_i id b n; exact absurd rfl (hx id b n)
            · exact h.no.elim
    · exact h.no.elim

theorem look_core {tk te : TS} {ok : Bool} {M : Option (List (AV × AV))}
    (h : Yv s d v (M.bind fun es => bif keyOk tk y && (bif te.isAgg then false else Nat.beq te.size 1) then
        (findA y es).bind fun r =>
          let v := r.getD (te.zero.headD .undef)
          s.setd d (bif ok then .tup [v, .bool r.isSome] else v)
      else none)) (hn : s'.n = s.n) (hc : s'.cond) :
    Yv s' d v (M.bind fun es => bif keyOk tk y && (bif te.isAgg then false else Nat.beq te.size 1) then
        (findA y es).bind fun r =>
          let v := r.getD (te.zero.headD .undef)
          s'.setd d (bif ok then .tup [v, .bool r.isSome] else v)
      else none) := by
  cases M with
  | none => exact h.no.elim
  | some es =>
    rw [Option.bind_some] at h ⊢
    cases hb : (keyOk tk y && (bif te.isAgg then false else Nat.beq te.size 1)) with
    | false => rw [hb] at h; exact h.no.elim
    | true =>
      rw [hb] at h
      rw [cond_true] at h ⊢
      cases hfa : findA y es with
      | none => rw [hfa] at h; exact h.no.elim
      | some r => rw [hfa] at h; exact h.setd hn hc

theorem cong_lookup {ok : Bool} (h : Yv s d v (opLookup T s d t x y ok)) (hn : s'.n = s.n) (hc : s'.cond) (hh : SameAt s s' x) : Yv s' d v (opLookup T s' d t x y ok) := by
  unfold opLookup at h ⊢
  cases ht : T t with
  | none => rw [ht] at h; exact h.no.elim
  | some ts =>
    rw [ht] at h
    simp only [Option.bind_some] at h ⊢
    cases hk : ts.kind with
    | map kt et =>
      simp only [hk] at h ⊢
      cases htk : T kt with
      | none => rw [htk] at h; exact h.no.elim
      | some tk =>
        cases hte : T et with
        | none => rw [htk, hte] at h; exact h.no.elim
        | some te =>
          rw [htk, hte] at h
          simp only [Option.bind_some] at h ⊢
          cases x with
          | mp id =>
            have hid := hh id (by simp [refs])
            simp only [hid]
            exact look_core h hn hc
          | nilmap => exact look_core h hn hc
          | _ => exact h.no.elim
    | _ => simp only [hk] at h; exact h.no.elim

end
end Go.Av

namespace Go.Av
variable [Drawn]

/-- An operation that yields a value, and leaves what is there. -/
def valKind (own : Nat → Bool) (o : Oper) : Bool := match o.op with
  | .move _ | .assign _ | .pick _ _ _ | .load _ _ | .fieldAddr _ _ _ | .field _ _ _ | .indexAddr _ _ _ | .index _ _ _ | .build _ _ | .slice _ _ _ _ none
  | .binOp _ _ _ _ _ | .unOp _ _ _ | .convert _ _ _ | .extract _ _ | .makeInterface _ _ | .lookup _ _ _ _ | .nilCheck _ | .makeFunc _ _ _ => true
  | .buildSlice _ _ _ => !own (o.dst.getD 0)
  | .makeSlice _ _ _ => own (o.dst.getD 0 + 2000)
  | .call c => match c.callee with
    | .value _ => !own (o.dst.getD 0)
    | .builtin .len => true
    | .builtin .max => true
    | .builtin .min => true
    | .builtin .append => !own (o.dst.getD 0)
    | _ => false
  | _ => false

/-- An operation that makes an object. -/
def effKind (own : Nat → Bool) (o : Oper) : Bool := match o.op with
  | .alloc _ => !own (o.dst.getD 0)
  | .box _ _ => true
  | .makeSlice _ _ _ => !own (o.dst.getD 0 + 2000)
  | .store _ _ _ => own 3000
  | .buildSlice _ _ _ => own (o.dst.getD 0)
  | .call c => match c.callee with
    | .builtin .append => own (o.dst.getD 0) && !own (o.dst.getD 0 + 1000)
    | .value _ => own (o.dst.getD 0) && !own (o.dst.getD 0 + 1000)
    | _ => false
  | _ => false

/-- A variable that is made in a slot kept for it. -/
def slotKind (own : Nat → Bool) (o : Oper) : Bool := match o.op with
  | .alloc _ => own (o.dst.getD 0)
  | _ => false

def directB (ops : Array Oper) (i j : Nat) : Bool := ((ops[i]?).map fun o => o.after.any fun e => Region.binds .any e && Nat.beq e.on j).getD false

def apartB (ops : Array Oper) (i j : Nat) : Bool := match ops[i]?, ops[j]? with
  | some a, some b => a.apart ops b
  | _, _ => false

def valAt (own : Nat → Bool) (ops : Array Oper) (i : Nat) : Bool := ((ops[i]?).map (valKind own)).getD false
def effAt (own : Nat → Bool) (ops : Array Oper) (i : Nat) : Bool := ((ops[i]?).map fun o => !valKind own o && effKind own o).getD false

def slotAt (own : Nat → Bool) (ops : Array Oper) (i : Nat) : Bool := ((ops[i]?).map (slotKind own)).getD false

/-- Two operations whose order does not matter. -/
def swapB (own : Nat → Bool) (ops : Array Oper) (j i : Nat) : Bool :=
  apartB ops j i && (((valAt own ops j || slotAt own ops j) && (valAt own ops i || slotAt own ops i || effAt own ops i)) || (effAt own ops j && (valAt own ops i || slotAt own ops i)))

/-- .. in some steps. -/
def reachB (ops : Array Oper) : Nat → Nat → Nat → Bool
  | 0, i, j => directB ops i j
  | n + 1, i, j => directB ops i j || ((ops[i]?).map fun o => o.after.any fun e => Region.binds .any e && reachB ops n e.on j).getD false

/-- Whether one is bound to the other. -/
def depB (ops : Array Oper) (i j : Nat) : Bool := directB ops i j || reachB ops 12 i j
/-- Two operations of which neither waits for the other. -/
def freeB (ops : Array Oper) (j i : Nat) : Bool := Nat.blt i ops.size && bif Nat.blt j i then !depB ops i j else !depB ops j i

/-- All is in order with a region whose order is drawn. -/
def drawnB (own : Nat → Bool) (ops : Array Oper) : Bool :=
  (List.range ops.size).all fun i => (((ops[i]?).map fun o => o.after.all fun e => !Region.binds .any e || Nat.blt e.on i).getD false) &&
    (List.range i).all fun j => directB ops i j || swapB own ops j i || reachB ops 12 i j

def Eqv (s s' : St) : Prop := (∀ t, look s'.ch t = look s.ch t) ∧ s'.hp = s.hp ∧ s'.base = s.base ∧ (s'.n = s.n ∧ s'.gl = s.gl) ∧ (s.cond ↔ s'.cond)

theorem Models.eqv {E0 : Env} {H0 : List AObj} {w0 : World} {E : Env} {s s' : St} {a : Act} {w : World} (h : Models E0 H0 w0 E s a w) (he : Eqv s s') : Models E0 H0 w0 E s' a w := by
  obtain ⟨e1, e2, e3, ⟨e4, e6⟩, _⟩ := he
  constructor
  · rw [e4]; exact h.size
  · intro t; rw [e1]; exact h.tmps t
  · rw [e2]; exact h.heap
  · rw [e2, e3]; exact h.base
  · rw [e2, e3]; exact h.old
  · rw [e2, e3]; exact h.new
  · exact h.F
  · exact h.Fnew
  · exact h.keeps
  · rw [e6]; exact h.laid

def Agree (ops : Array Oper) (R : List Nat) (o : Oper) (s s' : St) : Prop :=
  (s'.n = s.n ∧ s'.gl = s.gl) ∧ s'.cond ∧ (∀ t ∈ o.looksAt ops, look s'.ch t = look s.ch t) ∧ ∀ id ∈ R, s'.hp[id]? = s.hp[id]?

/-- Heaps that agree but for slots. -/
def HpE (B : List Nat) (hp hp' : List AObj) : Prop := hp'.length = hp.length ∧ ∀ id, id ∉ B → hp'[id]? = hp[id]?
theorem HpE.refl (B : List Nat) (hp : List AObj) : HpE B hp hp := ⟨rfl, fun _ _ => rfl⟩
theorem HpE.trans {B : List Nat} {a b c : List AObj} (h : HpE B a b) (k : HpE B b c) : HpE B a c := ⟨k.1.trans h.1, fun id hi => (k.2 id hi).trans (h.2 id hi)⟩
theorem HpE.set {B : List Nat} {a : List AObj} {k : Nat} (hk : k ∈ B) (o : AObj) : HpE B a (a.set k o) := ⟨by simp, fun id hi => by rw [List.getElem?_set_ne]; rintro rfl; exact hi hk⟩
theorem HpE.unset {B : List Nat} {a : List AObj} {k : Nat} (hk : k ∈ B) (o : AObj) : HpE B (a.set k o) a := ⟨by simp, fun id hi => by rw [List.getElem?_set_ne]; rintro rfl; exact hi hk⟩
theorem HpE.nil {a b : List AObj} (h : HpE [] a b) : b = a := List.ext_getElem? fun i => h.2 i (by simp)

/-- What an effect does with the heap leaves slots alone. -/
def FOk (B : List Nat) (n : Nat) (f : List AObj → List AObj) : Prop := ∀ (hp : List AObj) (k : Nat), k ∈ B → hp.length = n → (f hp)[k]? = hp[k]? ∧ ∀ o, f (hp.set k o) = (f hp).set k o

def AgreeE (B : List Nat) (ops : Array Oper) (o : Oper) (s s' : St) : Prop :=
  (s'.n = s.n ∧ s'.gl = s.gl) ∧ s'.cond ∧ (∀ t ∈ o.looksAt ops, look s'.ch t = look s.ch t) ∧ HpE B s.hp s'.hp ∧ s'.base = s.base

/-- An operation's value and the heap behind it. -/
def Yh (s : St) (d : Option Nat) (v : AV) (H : List AObj) (o : Option St) : Prop := ∃ r, o = some r ∧ r.cond ∧ r.hp = H ∧ s.setd d v = some { r with cond := s.cond, hp := s.hp }

/-- A value that says less. -/
def Wk (v0 v : AV) : Prop := ∀ (E : Env) (w : World) (x : Value), Rep E w v0 x → Rep E w v x

/-- .. with a value that says less. -/
def Yw (s : St) (d : Option Nat) (v : AV) (H : List AObj) (o : Option St) : Prop := ∃ v0, Wk v0 v ∧ Yh s d v0 H o

theorem Yh.yw {s : St} {d : Option Nat} {v : AV} {H : List AObj} {o : Option St} (h : Yh s d v H o) : Yw s d v H o := ⟨v, fun _ _ _ h => h, h⟩

theorem Models.wk {E0 : Env} {H0 : List AObj} {w0 : World} {E : Env} {s s0 s1 : St} {a : Act} {w : World} {d : Option Nat} {v0 v : AV} (h : Models E0 H0 w0 E s0 a w) (hw : Wk v0 v) (h0 : s.setd d v0 = some s0) (h1 : s.setd d v = some s1) : Models E0 H0 w0 E s1 a w := by
  cases d with
  | none =>
    simp only [St.setd, Option.some.injEq] at h0 h1
    rw [← h1, h0]; exact h
  | some t =>
    simp only [St.setd] at h0 h1
    cases hb : Nat.blt t s.n with
    | false => rw [hb] at h0; cases h0
    | true =>
      rw [hb, cond_true, Option.some.injEq] at h0 h1
      subst h0; subst h1
      refine ⟨h.size, fun u => ?_, h.heap, h.base, h.old, h.new, h.F, h.Fnew, h.keeps, h.laid⟩
      have := h.tmps u
      show Rep E w (look ((t, v) :: s.ch) u) _
      change Rep E w (look ((t, v0) :: s.ch) u) _ at this
      simp only [look] at this ⊢
      cases hu : Nat.beq t u with
      | true => rw [hu] at this; exact hw _ _ _ this
      | false => rw [hu] at this; exact this

def Yo (P : Program) (T : TT) (own : Nat → Bool) (o : Oper) (s : St) (v : AV) (H : List AObj) : Prop :=
  match o.op with
  | .call c => match c.callee with
    | .value f => (∃ g p r H', calleeA s f c.args.toList = some g ∧ Fn P g.1 ∧ toArgs s.hp g.2 = some p ∧ p.2.1 ∧ v = shift s.hp.length r ∧ H = s.hp ++ H'.map (objShift s.hp.length) ∧ (p.2.2 = true → H' = [] ∧ isScalar r = true) ∧
        CallsA P s.gl g.1 p.1 [] fun r' H'' => r' = r ∧ H'' = H') ∨
      ∃ g I p, calleeA s f c.args.toList = some g ∧ Fn P g.1 ∧ nodupB I = true ∧ closedB I s.hp = true ∧ argsH I s.hp g.2 = some p ∧ p.2.1 ∧ isScalar v = true ∧ H = s.hp ∧ putBack I s.hp (passed I s.hp) = s.hp ∧ (p.2.2 = true → ∀ o ∈ passed I s.hp, LocObj o) ∧
        CallsA P s.gl g.1 p.1 (passed I s.hp) fun r' H'' => r' = v ∧ H'' = passed I s.hp
    | _ => Yw s o.dst v H (opf T own o s)
  | _ => Yw s o.dst v H (opf T own o s)

def Stp (P : Program) (T : TT) (own : Nat → Bool) (ops : Array Oper) (o : Oper) (s : St) (v : AV) (H : List AObj) : Prop :=
  ∃ g, guardA ops s o = some g ∧ if g = true then Yo P T own o s v H else v = .tup [] ∧ H = s.hp

/-- An operation, by what machines do. -/
def SemOp (P : Program) (o : Oper) (K : St → Prop) (s : St) : Prop :=
  (∀ c, o.op ≠ .defer c) ∧ ∀ (E0 : Env) (H0 : List AObj) (w0 : World) (E : Env) (a : Act) (w : World) (N : Act → World → Prop) (Q : Exit → Act → World → Prop), Models E0 H0 w0 E s a w →
    (∀ s' E' v w', K s' → Models E0 H0 w0 E' s' (a.put o.dst v) w' → N (a.put o.dst v) w') → o.wp P a w N Q

/-- A variable made in its slot. -/
structure SlotOp (T : TT) (own : Nat → Bool) (B : List Nat) (R : Nat → List Nat) (o : Oper) (s s1 : St) : Prop where
  val : valKind own o = false
  eff : effKind own o = false
  slot : slotKind own o = true
  guard : o.guard = none
  go : ∃ t d ts k, o.op = .alloc t ∧ o.dst = some d ∧ T t = some ts ∧ k ∈ B ∧ (∀ i, k ∉ R i) ∧ s.base ≤ k ∧ s.hp[k]? = some .slot ∧ Nat.blt d s.n = true ∧ s1 = { s with ch := (d, .hptr k 0 0) :: s.ch, hp := s.hp.set k (.var ts.zero) }

def regI (P : Program) (T : TT) (own : Nat → Bool) (ops : Array Oper) (B : List Nat) (R : Nat → List Nat) (K : St → Prop) : List Nat → St → Prop
  | [], s => K s
  | i :: is, s => ∃ o, ops[i]? = some o ∧
    ((valKind own o = true ∧ ∃ v s1, (∀ s', Agree ops (R i) o s s' → Stp P T own ops o s' v s'.hp) ∧ s.setd o.dst v = some s1 ∧ regI P T own ops B R K is s1) ∨
     (valKind own o = false ∧ effKind own o = true ∧ ∃ v f s1, (∀ s', AgreeE B ops o s s' → Stp P T own ops o s' v (f s'.hp)) ∧ FOk B s.hp.length f ∧ (∀ k, freeB ops i k = true → ∀ id ∈ R k, (f s.hp)[id]? = s.hp[id]?) ∧ ({ s with hp := f s.hp } : St).setd o.dst v = some s1 ∧ regI P T own ops B R K is s1) ∨
     (valKind own o = false ∧ effKind own o = false ∧ slotKind own o = false ∧ o.guard = none ∧ SemOp P o (fun s' => s'.cond ∧ regI P T own ops B R K is s') s) ∨
     (∃ s1, SlotOp T own B R o s s1 ∧ regI P T own ops B R K is s1))

section
variable {P : Program} {X : Ctx} {T : TT} {own : Nat → Bool} {ops : Array Oper} {B R0 : List Nat} {R : Nat → List Nat} {K : St → Prop}

theorem setd_eqv {s s' s1 : St} {d : Option Nat} {v : AV} (he : Eqv s s') (h : s.setd d v = some s1) : ∃ s1', s'.setd d v = some s1' ∧ Eqv s1 s1' := by
  obtain ⟨e1, e2, e3, ⟨e4, e6⟩, e5⟩ := he
  cases d with
  | none => simp only [St.setd, Option.some.injEq] at h; subst h; exact ⟨s', rfl, e1, e2, e3, ⟨e4, e6⟩, e5⟩
  | some d =>
    simp only [St.setd] at h ⊢
    rw [e4]
    cases hb : Nat.blt d s.n with
    | false => rw [hb] at h; cases h
    | true =>
      rw [hb, cond_true, Option.some.injEq] at h
      subst h
      refine ⟨_, rfl, fun t => ?_, e2, e3, ⟨rfl, e6⟩, e5⟩
      show look ((d, v) :: s'.ch) t = look ((d, v) :: s.ch) t
      rw [look_val, look_val, e1]

theorem Eqv.symm {s s' : St} (h : Eqv s s') : Eqv s' s := ⟨fun t => (h.1 t).symm, h.2.1.symm, h.2.2.1.symm, ⟨h.2.2.2.1.1.symm, h.2.2.2.1.2.symm⟩, h.2.2.2.2.symm⟩
theorem Eqv.refl (s : St) : Eqv s s := ⟨fun _ => rfl, rfl, rfl, ⟨rfl, rfl⟩, Iff.rfl⟩

theorem SemOp.eqv {o : Oper} {s s' : St} (h : SemOp P o K s) (he : Eqv s s') : SemOp P o K s' := ⟨h.1, fun E0 H0 w0 E a w N Q hm hn =>
  h.2 E0 H0 w0 E a w N Q (hm.eqv he.symm) hn⟩

theorem Agree.trans {o : Oper} {s s1 s2 : St} (h : Agree ops R0 o s s1) (k : Agree ops R0 o s1 s2) : Agree ops R0 o s s2 :=
  ⟨⟨k.1.1.trans h.1.1, k.1.2.trans h.1.2⟩, k.2.1, fun t ht => (k.2.2.1 t ht).trans (h.2.2.1 t ht), fun id hi => (k.2.2.2 id hi).trans (h.2.2.2 id hi)⟩

theorem AgreeE.trans {o : Oper} {s s1 s2 : St} (h : AgreeE B ops o s s1) (k : AgreeE B ops o s1 s2) : AgreeE B ops o s s2 :=
  ⟨⟨k.1.1.trans h.1.1, k.1.2.trans h.1.2⟩, k.2.1, fun t ht => (k.2.2.1 t ht).trans (h.2.2.1 t ht), h.2.2.2.1.trans k.2.2.2.1, k.2.2.2.2.trans h.2.2.2.2⟩

theorem Eqv.agree {o : Oper} {s s1 : St} (h : Eqv s s1) (hc : s.cond) : Agree ops R0 o s s1 := ⟨h.2.2.2.1, h.2.2.2.2.1 hc, fun t _ => h.1 t, fun id _ => by rw [h.2.1]⟩
theorem Eqv.agreeE {o : Oper} {s s1 : St} (h : Eqv s s1) (hc : s.cond) : AgreeE B ops o s s1 := ⟨h.2.2.2.1, h.2.2.2.2.1 hc, fun t _ => h.1 t, by rw [h.2.1]; exact HpE.refl _ _, h.2.2.1⟩

theorem setd_cond {s s1 : St} {d : Option Nat} {v : AV} (h : s.setd d v = some s1) : s1.cond = s.cond := (setd_some h).2.1

theorem SlotOp.eqv {o : Oper} {s s' s1 : St} (h : SlotOp T own B R o s s1) (he : Eqv s s') : ∃ s1', SlotOp T own B R o s' s1' ∧ Eqv s1 s1' := by
  obtain ⟨h1, h2, h3, h4, t, d, ts, k, g1, g2, g3, g4, g5, g6, g7, g8, rfl⟩ := h
  obtain ⟨e1, e2, e3, ⟨e4, e6⟩, e5⟩ := he
  refine ⟨_, ⟨h1, h2, h3, h4, t, d, ts, k, g1, g2, g3, g4, g5, by rw [e3]; exact g6, by rw [e2]; exact g7, by rw [e4]; exact g8, rfl⟩, fun u => ?_, by simp only [e2], e3, ⟨e4, e6⟩, e5⟩
  show look ((d, _) :: s'.ch) u = look ((d, _) :: s.ch) u
  rw [look_val, look_val, e1]

theorem regI_eqv (hK : ∀ s s', Eqv s s' → s.cond → K s → K s') : ∀ (is : List Nat) (s s' : St), Eqv s s' → s.cond → regI P T own ops B R K is s → regI P T own ops B R K is s'
  | [], s, s', he, hc, h => hK s s' he hc h
  | i :: is, s, s', he, hc, h => by
    obtain ⟨o, ho, h⟩ := h
    refine ⟨o, ho, ?_⟩
    rcases h with ⟨hv, v, s1, h1, h2, h3⟩ | ⟨hv, hf, v, f, s1, h1, hF, hR, h2, h3⟩ | ⟨hv, hf, hs, hg, h⟩ | ⟨s1, h1, h2⟩
    · obtain ⟨s1', g1, g2⟩ := setd_eqv he h2
      exact .inl ⟨hv, v, s1', fun s2 ha => h1 s2 ((he.agree hc).trans ha), g1, regI_eqv hK is s1 s1' g2 (by rw [setd_cond h2]; exact hc) h3⟩
    · have e2 : s'.hp = s.hp := he.2.1
      have he' : Eqv { s with hp := f s.hp } { s' with hp := f s'.hp } := ⟨he.1, by simp only [e2], he.2.2.1, he.2.2.2.1, he.2.2.2.2⟩
      obtain ⟨s1', g1, g2⟩ := setd_eqv he' h2
      exact .inr (.inl ⟨hv, hf, v, f, s1', fun s2 ha => h1 s2 ((he.agreeE hc).trans ha), by rw [e2]; exact hF, fun k hk id hi => by rw [e2]; exact hR k hk id hi, g1, regI_eqv hK is s1 s1' g2 (by rw [setd_cond h2]; exact hc) h3⟩)
    · exact .inr (.inr (.inl ⟨hv, hf, hs, hg, h.eqv he⟩))
    · obtain ⟨s1', g1, g2⟩ := h1.eqv he
      exact .inr (.inr (.inr ⟨s1', g1, regI_eqv hK is s1 s1' g2 (by obtain ⟨_, _, _, _, t, d, ts, k, _, _, _, _, _, _, _, _, rfl⟩ := h1; exact hc) h2⟩))

/-- Two temporaries laid in either order. -/
theorem setd_swap {s s1 s2 : St} {d d' : Option Nat} {v v' : AV} {H : List AObj} (hne : ∀ t, d = some t → d' ≠ some t) (h1 : s.setd d v = some s1) (h2 : ({ s1 with hp := H } : St).setd d' v' = some s2) :
    ∃ s1', ({ s with hp := H } : St).setd d' v' = some s1' ∧ ∃ s2', s1'.setd d v = some s2' ∧ Eqv s2 s2' := by
  cases d with
  | none =>
    simp only [St.setd, Option.some.injEq] at h1; subst h1
    exact ⟨s2, h2, s2, rfl, Eqv.refl _⟩
  | some t =>
    simp only [St.setd] at h1
    cases hb : Nat.blt t s.n with
    | false => rw [hb] at h1; cases h1
    | true =>
      rw [hb, cond_true, Option.some.injEq] at h1
      subst h1
      cases d' with
      | none =>
        simp only [St.setd, Option.some.injEq] at h2; subst h2
        exact ⟨_, rfl, { s with hp := H, ch := (t, v) :: s.ch }, by simp only [St.setd, hb, cond_true], Eqv.refl _⟩
      | some t' =>
        simp only [St.setd] at h2
        cases hb' : Nat.blt t' s.n with
        | false => rw [hb'] at h2; cases h2
        | true =>
          rw [hb', cond_true, Option.some.injEq] at h2
          subst h2
          refine ⟨{ s with hp := H, ch := (t', v') :: s.ch }, by simp only [St.setd, hb', cond_true], { s with hp := H, ch := (t, v) :: (t', v') :: s.ch }, by simp only [St.setd, hb, cond_true], fun u => ?_, rfl, rfl, ⟨rfl, rfl⟩, Iff.rfl⟩
          simp only [look_val]
          have := hne t rfl
          by_cases e1 : t = u <;> by_cases e2 : t' = u <;> simp_all

theorem look_setd {s s1 : St} {d : Option Nat} {v : AV} (h : s.setd d v = some s1) {t : Nat} (ht : d ≠ some t) : look s1.ch t = look s.ch t := by
  obtain ⟨_, _, _, _, e⟩ := setd_some h
  rcases e with ⟨_, rfl⟩ | ⟨u, rfl, _, e⟩
  · rfl
  · rw [e, look_val, if_neg]; intro e; subst e; exact ht rfl

theorem agree_setd {o : Oper} {s s1 : St} {d : Option Nat} {v : AV} (h : s.setd d v = some s1) (hd : ∀ t, d = some t → t ∉ o.looksAt ops) (hc : s.cond) : Agree ops R0 o s1 s := by
  obtain ⟨e1, e2, e3, e4, _⟩ := setd_some h
  exact ⟨⟨e4.symm, (setd_gl h).symm⟩, hc, fun t ht => (look_setd h (fun e => hd t e ht)).symm, fun id _ => by rw [e1]⟩

theorem agree_setd' {o : Oper} {s s1 : St} {d : Option Nat} {v : AV} (h : s.setd d v = some s1) (hd : ∀ t, d = some t → t ∉ o.looksAt ops) (hc : s.cond) : Agree ops R0 o s s1 := by
  obtain ⟨e1, e2, e3, e4, _⟩ := setd_some h
  exact ⟨⟨e4, setd_gl h⟩, by rw [e2]; exact hc, fun t ht => look_setd h (fun e => hd t e ht), fun id _ => by rw [e1]⟩

theorem setd_with {s s1 : St} {d : Option Nat} {v : AV} (h : s.setd d v = some s1) (H : List AObj) : ({ s with hp := H } : St).setd d v = some { s1 with hp := H } := by
  cases d with
  | none => simp only [St.setd, Option.some.injEq] at h ⊢; rw [h]
  | some t =>
    simp only [St.setd] at h ⊢
    cases hb : Nat.blt t s.n with
    | false => rw [hb] at h; cases h
    | true => rw [hb, cond_true, Option.some.injEq] at h; subst h; simp

theorem setd_hp {s : St} {H : List AObj} {d : Option Nat} {v : AV} {s1 : St} (h : ({ s with hp := H } : St).setd d v = some s1) : ∃ s0, s.setd d v = some s0 ∧ s1 = { s0 with hp := H } := by
  cases d with
  | none => simp only [St.setd, Option.some.injEq] at h; exact ⟨s, rfl, h.symm⟩
  | some t =>
    simp only [St.setd] at h ⊢
    cases hb : Nat.blt t s.n with
    | false => rw [hb] at h; cases h
    | true => rw [hb, cond_true, Option.some.injEq] at h; exact ⟨_, rfl, h.symm⟩

theorem swap_ok (hK : ∀ s s', Eqv s s' → s.cond → K s → K s') {j i : Nat} {rest : List Nat} {s : St} (hs : swapB own ops j i = true) (hfr : freeB ops j i = true ∧ freeB ops i j = true) (hc : s.cond)
    (h : regI P T own ops B R K (j :: i :: rest) s) : regI P T own ops B R K (i :: j :: rest) s := by
  obtain ⟨oj, hoj, h⟩ := h
  rw [swapB, Bool.and_eq_true] at hs
  obtain ⟨hap, hkind⟩ := hs
  have core : ∀ oi, ops[i]? = some oi → (∀ d, oj.dst = some d → d ∉ oi.looksAt ops) ∧ (∀ d, oj.dst = some d → oi.dst ≠ some d) ∧ (∀ d, oi.dst = some d → d ∉ oj.looksAt ops) := by
    intro oi hoi
    simp only [apartB, hoj, hoi] at hap
    exact Oper.apart_spec hap
  rcases h with ⟨hvj, v, s1, h1, h2, oi, hoi, h⟩ | ⟨hvj, hfj, v, f, s1, h1, hF, hR, h2, oi, hoi, h⟩ | ⟨hvj, hfj, hsj, hg, _⟩ | ⟨s1, hsl, oi, hoi, h⟩
  · obtain ⟨a1, a2, a3⟩ := core oi hoi
    have hc1 : s1.cond := by rw [setd_cond h2]; exact hc
    refine ⟨oi, hoi, ?_⟩
    rcases h with ⟨hvi, v', s2, k1, k2, k3⟩ | ⟨hvi, hfi, v', f, s2, k1, kF, kR, k2, k3⟩ | ⟨hvi, hfi, hsi, _⟩ | ⟨s2, hsl, k3⟩
    · obtain ⟨s1', q1, s2', q2, q3⟩ := setd_swap (H := s1.hp) a2 h2 (by exact k2)
      have e0 : s1.hp = s.hp := (setd_some h2).1
      rw [e0] at q1
      refine .inl ⟨hvi, v', s1', fun s' ha => k1 s' ((agree_setd h2 a1 hc).trans ha), q1, oj, hoj, .inl ⟨hvj, v, s2', fun s' ha => h1 s' ((agree_setd' q1 a3 hc).trans ha), q2, ?_⟩⟩
      exact regI_eqv hK rest s2 s2' q3 (by rw [setd_cond k2]; exact hc1) k3
    · obtain ⟨e1, e2, e3, e4, _⟩ := setd_some h2
      obtain ⟨s1', q1, s2', q2, q3⟩ := setd_swap a2 h2 k2
      rw [e1] at q1 kF kR
      refine .inr (.inl ⟨hvi, hfi, v', f, s1', fun s' ha => k1 s' (AgreeE.trans (s1 := s) ⟨⟨e4.symm, (setd_gl h2).symm⟩, hc, fun t ht => (look_setd h2 (fun e => a1 t e ht)).symm, by rw [e1]; exact HpE.refl _ _, e3.symm⟩ ha), kF, kR, q1, oj, hoj,
        .inl ⟨hvj, v, s2', fun s' ha => h1 s' (Agree.trans (s1 := s1') ?_ ha), q2, ?_⟩⟩)
      · obtain ⟨f1, f2, f3, f4, _⟩ := setd_some q1
        exact ⟨⟨f4, by have e := setd_gl q1; exact e⟩, by rw [f2]; exact hc, fun t ht => look_setd q1 (fun e => a3 t e ht), fun id hi => by rw [f1]; exact kR j hfr.2 id hi⟩
      · exact regI_eqv hK rest s2 s2' q3 (by rw [setd_cond k2]; exact hc1) k3
    · simp only [valAt, effAt, slotAt, hoi, hoj, Option.map_some, Option.getD_some, hvi, hfi, hsi, hvj] at hkind
      simp at hkind
    · obtain ⟨b1, b2, b3, b4, t, d, ts, k, g1, g2, g3, g4, g5, g6, g7, g8, rfl⟩ := hsl
      obtain ⟨e1, e2, e3, e4, _⟩ := setd_some h2
      have hset : ({ s1 with hp := s.hp.set k (.var ts.zero) } : St).setd oi.dst (.hptr k 0 0) = some { s1 with ch := (d, .hptr k 0 0) :: s1.ch, hp := s1.hp.set k (.var ts.zero) } := by
        rw [g2]; simp only [St.setd, g8, cond_true, e1]
      obtain ⟨s1', q1, s2', q2, q3⟩ := setd_swap a2 h2 hset
      refine .inr (.inr (.inr ⟨s1', ⟨b1, b2, b3, b4, t, d, ts, k, g1, g2, g3, g4, g5, by rw [← e3]; exact g6, by rw [← e1]; exact g7, by rw [← e4]; exact g8, ?_⟩, oj, hoj, .inl ⟨hvj, v, s2', fun s' ha => h1 s' (Agree.trans (s1 := s1') ?_ ha), q2, ?_⟩⟩))
      · rw [g2] at q1
        rw [e4] at g8
        simp only [St.setd, g8, cond_true, Option.some.injEq] at q1
        exact q1.symm
      · obtain ⟨f1, f2, f3, f4, _⟩ := setd_some q1
        exact ⟨⟨f4, by have e := setd_gl q1; exact e⟩, by rw [f2]; exact hc, fun t ht => look_setd q1 (fun e => a3 t e ht), fun id hi => by
          rw [f1]; show (s.hp.set k _)[id]? = _
          rw [List.getElem?_set_ne]; rintro rfl; exact g5 _ hi⟩
      · exact regI_eqv hK rest _ s2' q3 hc1 k3
  · obtain ⟨a1, a2, a3⟩ := core oi hoi
    have hc1 : s1.cond := by rw [setd_cond h2]; exact hc
    refine ⟨oi, hoi, ?_⟩
    rcases h with ⟨hvi, v', s2, k1, k2, k3⟩ | ⟨hvi, hfi, v', H', s2, k1, kF, kR, k2, k3⟩ | ⟨hvi, hfi, hsi, _⟩ | ⟨s2, hsl, k3⟩
    · obtain ⟨s1', q1, s2', q2, q3⟩ := setd_swap (H := s1.hp) a2 h2 (by exact k2)
      obtain ⟨e1, e2, e3, e4, _⟩ := setd_some h2
      have e1 : s1.hp = f s.hp := e1
      rw [e1] at q1
      obtain ⟨s0, p1, p2⟩ := setd_hp (s := s) q1
      obtain ⟨f1, f2, f3, f4, _⟩ := setd_some p1
      refine .inl ⟨hvi, v', s0, fun s' ha => k1 s' (Agree.trans (s1 := s) ⟨⟨e4.symm, (setd_gl h2).symm⟩, hc, fun t ht => (look_setd h2 (fun e => a1 t e ht)).symm, fun id hi => by rw [e1]; exact (hR i hfr.1 id hi).symm⟩ ha), p1, oj, hoj,
        .inr (.inl ⟨hvj, hfj, v, f, s2', fun s' ha => h1 s' (AgreeE.trans (s1 := s0) ⟨⟨f4, by have e := setd_gl p1; exact e⟩, by rw [f2]; exact hc, fun t ht => look_setd p1 (fun e => a3 t e ht), by rw [f1]; exact HpE.refl _ _, f3⟩ ha), by rw [f1]; exact hF, fun k hk id hi => by rw [f1]; exact hR k hk id hi, by rw [f1, ← p2]; exact q2, ?_⟩)⟩
      exact regI_eqv hK rest s2 s2' q3 (by rw [setd_cond k2]; exact hc1) k3
    · exfalso
      have z1 : slotKind own oj = false := by
        unfold slotKind; unfold effKind at hfj; split
        · rename_i t ht; rw [ht] at hfj; simpa using hfj
        · rfl
      have z2 : slotKind own oi = false := by
        unfold slotKind; unfold effKind at hfi; split
        · rename_i t ht; rw [ht] at hfi; simpa using hfi
        · rfl
      simp only [valAt, effAt, slotAt, hoi, hoj, Option.map_some, Option.getD_some, hvi, hvj, z1, z2] at hkind
      simp at hkind
    · exfalso
      have z1 : slotKind own oj = false := by
        unfold slotKind; unfold effKind at hfj; split
        · rename_i t ht; rw [ht] at hfj; simpa using hfj
        · rfl
      simp only [valAt, effAt, slotAt, hoi, hoj, Option.map_some, Option.getD_some, hvi, hfi, hsi, hvj, z1] at hkind
      simp at hkind
    · obtain ⟨b1, b2, b3, b4, t, d, ts, k, g1, g2, g3, g4, g5, g6, g7, g8, rfl⟩ := hsl
      obtain ⟨e1, e2, e3, e4, _⟩ := setd_some h2
      have e1 : s1.hp = f s.hp := e1
      have e3 : s1.base = s.base := e3
      have e4 : s1.n = s.n := e4
      obtain ⟨w1, w2⟩ := hF s.hp k g4 rfl
      obtain ⟨s0, p1, p2⟩ := setd_hp (s := s) h2
      have hset : ({ s0 with hp := (f s.hp).set k (.var ts.zero) } : St).setd oi.dst (.hptr k 0 0) = some { s1 with ch := (d, .hptr k 0 0) :: s1.ch, hp := s1.hp.set k (.var ts.zero) } := by
        rw [g2]; rw [p2] at g8 ⊢; simp only [St.setd, g8, cond_true]
      obtain ⟨s1', q1, s2', q2, q3⟩ := setd_swap a2 p1 hset
      have q1' : ({ s with hp := s.hp.set k (.var ts.zero) } : St).setd oi.dst (.hptr k 0 0) = some { s1' with hp := s.hp.set k (.var ts.zero) } := setd_with q1 _
      have hs1' : ({ s1' with hp := s.hp.set k (.var ts.zero) } : St) = { s with ch := (d, .hptr k 0 0) :: s.ch, hp := s.hp.set k (.var ts.zero) } := by
        rw [g2] at q1'
        rw [e4] at g8
        simp only [St.setd, g8, cond_true, Option.some.injEq] at q1'
        exact q1'.symm
      refine .inr (.inr (.inr ⟨{ s1' with hp := s.hp.set k (.var ts.zero) }, ⟨b1, b2, b3, b4, t, d, ts, k, g1, g2, g3, g4, g5, by rw [← e3]; exact g6, by rw [← w1, ← e1]; exact g7, by rw [← e4]; exact g8, hs1'⟩, oj, hoj,
        .inr (.inl ⟨hvj, hfj, v, f, s2', fun s' ha => h1 s' (AgreeE.trans (s1 := { s1' with hp := s.hp.set k (.var ts.zero) }) ?_ ha), ?_, ?_, ?_, ?_⟩)⟩))
      · obtain ⟨f1, f2, f3, f4, _⟩ := setd_some q1
        exact ⟨⟨f4, by have e := setd_gl q1; exact e⟩, by show s1'.cond; rw [f2]; exact hc, fun t ht => look_setd q1' (fun e => a3 t e ht), HpE.set g4 _, f3⟩
      · simpa using hF
      · intro kk hkk id hi
        have hne : k ≠ id := by rintro rfl; exact g5 _ hi
        show (f (s.hp.set k _))[id]? = (s.hp.set k _)[id]?
        rw [w2, List.getElem?_set_ne hne, List.getElem?_set_ne hne]
        exact hR kk hkk id hi
      · show ({ s1' with hp := f (s.hp.set k (.var ts.zero)) } : St).setd oj.dst v = some s2'
        rw [w2]
        have f1 : s1'.hp = (f s.hp).set k (.var ts.zero) := (setd_some q1).1
        rw [← f1]; exact q2
      · exact regI_eqv hK rest _ s2' q3 hc1 k3
  · exfalso
    simp only [valAt, effAt, slotAt, hoj, Option.map_some, Option.getD_some, hvj, hfj, hsj] at hkind
    simp at hkind
  · obtain ⟨a1, a2, a3⟩ := core oi hoi
    obtain ⟨b1, b2, b3, b4, t, d, ts, k, g1, g2, g3, g4, g5, g6, g7, g8, rfl⟩ := hsl
    have hset : ({ s with hp := s.hp.set k (.var ts.zero) } : St).setd oj.dst (.hptr k 0 0) = some { s with ch := (d, .hptr k 0 0) :: s.ch, hp := s.hp.set k (.var ts.zero) } := by
      rw [g2]; simp only [St.setd, g8, cond_true]
    obtain ⟨s0, p1, p2⟩ := setd_hp (s := s) hset
    obtain ⟨z1, z2, z3, z4, _⟩ := setd_some p1
    refine ⟨oi, hoi, ?_⟩
    rcases h with ⟨hvi, v', s2, k1, k2, k3⟩ | ⟨hvi, hfi, v', f, s2, k1, kF, kR, k2, k3⟩ | ⟨hvi, hfi, hsi, _⟩ | ⟨s2, hsl, k3⟩
    · -- slot, then value
      rw [p2] at k1 k2
      obtain ⟨s1', q1, s2', q2, q3⟩ := setd_swap (H := s.hp.set k (.var ts.zero)) a2 p1 (by exact k2)
      obtain ⟨s3, r1, r2⟩ := setd_hp (s := s) q1
      obtain ⟨y1, y2, y3, y4, _⟩ := setd_some r1
      refine .inl ⟨hvi, v', s3, fun s' ha => k1 s' (Agree.trans (s1 := s) ⟨⟨z4.symm, by have e := setd_gl p1; exact e.symm⟩, hc, fun t ht => (look_setd p1 (fun e => a1 t e ht)).symm, fun id hi => ?_⟩ ha), r1, oj, hoj,
        .inr (.inr (.inr ⟨s2', ⟨b1, b2, b3, b4, t, d, ts, k, g1, g2, g3, g4, g5, by rw [y3]; exact g6, by rw [y1]; exact g7, by rw [y4]; exact g8, ?_⟩, ?_⟩))⟩
      · show s.hp[id]? = (s.hp.set k _)[id]?
        rw [List.getElem?_set_ne]; rintro rfl; exact g5 _ hi
      · rw [r2, g2] at q2
        have g8' : Nat.blt d s3.n = true := by rw [y4]; exact g8
        simp only [St.setd, g8', cond_true, Option.some.injEq] at q2
        rw [← q2, y1]
      · exact regI_eqv hK rest s2 s2' q3 (by rw [setd_cond k2]; show s0.cond; rw [z2]; exact hc) k3
    · -- slot, then effect
      rw [p2] at k1 k2 kF kR
      have hlen : (s.hp.set k (.var ts.zero)).length = s.hp.length := by simp
      have kF' : FOk B s.hp.length f := by simpa using kF
      obtain ⟨w1, w2⟩ := kF' s.hp k g4 rfl
      have k2' : ({ s0 with hp := f (s.hp.set k (.var ts.zero)) } : St).setd oi.dst v' = some s2 := k2
      obtain ⟨s1', q1, s2', q2, q3⟩ := setd_swap a2 p1 k2'
      have q1' : ({ s with hp := f s.hp } : St).setd oi.dst v' = some { s1' with hp := f s.hp } := setd_with q1 _
      obtain ⟨y1, y2, y3, y4, _⟩ := setd_some q1
      refine .inr (.inl ⟨hvi, hfi, v', f, { s1' with hp := f s.hp }, fun s' ha => k1 s' (AgreeE.trans (s1 := s) ⟨⟨z4.symm, by have e := setd_gl p1; exact e.symm⟩, hc, fun t ht => (look_setd p1 (fun e => a1 t e ht)).symm, HpE.unset g4 _, z3.symm⟩ ha), kF', fun kk hkk id hi => ?_, q1', oj, hoj,
        .inr (.inr (.inr ⟨s2', ⟨b1, b2, b3, b4, t, d, ts, k, g1, g2, g3, g4, g5, by show s1'.base ≤ k; rw [y3]; exact g6, by show (f s.hp)[k]? = _; rw [w1]; exact g7, by show Nat.blt d s1'.n = true; rw [y4]; exact g8, ?_⟩, ?_⟩))⟩)
      · have := kR kk hkk id hi
        have hne : k ≠ id := by rintro rfl; exact g5 _ hi
        have this : (f (s.hp.set k (.var ts.zero)))[id]? = (s.hp.set k (.var ts.zero))[id]? := this
        rw [w2, List.getElem?_set_ne hne, List.getElem?_set_ne hne] at this
        exact this
      · have q2' := q2
        rw [g2] at q2'
        have g8' : Nat.blt d s1'.n = true := by rw [y4]; exact g8
        simp only [St.setd, g8', cond_true, Option.some.injEq] at q2'
        rw [← q2']
        have y1 : s1'.hp = f (s.hp.set k (.var ts.zero)) := y1
        simp only [y1, w2]
      · exact regI_eqv hK rest s2 s2' q3 (by rw [setd_cond k2']; show s0.cond; rw [z2]; exact hc) k3
    · exfalso
      simp only [valAt, effAt, slotAt, hoi, hoj, Option.map_some, Option.getD_some, hvi, hfi, hsi, b1, b2] at hkind
      simp at hkind
    · -- two slots
      obtain ⟨c1, c2, c3, c4, t', d', ts', k', x1, x2, x3, x4, x5, x6, x7, x8, rfl⟩ := hsl
      have hkk : k ≠ k' := by
        rintro rfl
        have x7 : (s.hp.set k (.var ts.zero))[k]? = some .slot := x7
        rw [List.getElem?_set_self (by have := (List.getElem?_eq_some_iff.1 g7).1; exact this)] at x7
        cases x7
      have x7 : (s.hp.set k (.var ts.zero))[k']? = some .slot := x7
      rw [List.getElem?_set_ne hkk] at x7
      have hdd : d ≠ d' := fun e => a2 d g2 (by rw [x2, e])
      refine .inr (.inr (.inr ⟨_, ⟨c1, c2, c3, c4, t', d', ts', k', x1, x2, x3, x4, x5, x6, x7, x8, rfl⟩, oj, hoj,
        .inr (.inr (.inr ⟨_, ⟨b1, b2, b3, b4, t, d, ts, k, g1, g2, g3, g4, g5, g6, by show (s.hp.set k' _)[k]? = _; rw [List.getElem?_set_ne (Ne.symm hkk)]; exact g7, g8, rfl⟩, ?_⟩))⟩))
      have key : ∀ sA sB, regI P T own ops B R K rest sA → Eqv sA sB → sA.cond → regI P T own ops B R K rest sB := fun sA sB h he hc => regI_eqv hK rest sA sB he hc h
      refine key _ _ k3 ?_ hc
      refine ⟨fun u => ?_, ?_, rfl, ⟨rfl, rfl⟩, Iff.rfl⟩
      · show look ((d, _) :: (d', _) :: s.ch) u = look ((d', _) :: (d, _) :: s.ch) u
        simp only [look_val]
        by_cases e1 : d = u <;> by_cases e2 : d' = u <;> simp_all
      · show (s.hp.set k' _).set k _ = (s.hp.set k _).set k' _
        exact List.set_comm _ _ (Ne.symm hkk)

theorem bubble (hK : ∀ s s', Eqv s s' → s.cond → K s → K s') {i : Nat} {post : List Nat} : ∀ (pre : List Nat) (s : St), s.cond → (∀ j ∈ pre, swapB own ops j i = true ∧ freeB ops j i = true ∧ freeB ops i j = true) → regI P T own ops B R K (pre ++ i :: post) s → regI P T own ops B R K (i :: pre ++ post) s
  | [], s, _, _, h => h
  | j :: pre, s, hc, hs, h => by
    refine swap_ok hK (hs j (by simp)).1 (hs j (by simp)).2 hc ?_
    obtain ⟨oj, hoj, h⟩ := h
    refine ⟨oj, hoj, ?_⟩
    have ih := fun s1 hc1 => bubble hK (i := i) (post := post) pre s1 hc1 (fun k hk => hs k (by simp [hk]))
    rcases h with ⟨hvj, v, s1, h1, h2, h⟩ | ⟨hvj, hfj, v, f, s1, h1, hF, hR, h2, h⟩ | ⟨hvj, hfj, hsj, hg, h⟩ | ⟨s1, h1, h⟩
    · exact .inl ⟨hvj, v, s1, h1, h2, ih s1 (by rw [setd_cond h2]; exact hc) h⟩
    · exact .inr (.inl ⟨hvj, hfj, v, f, s1, h1, hF, hR, h2, ih s1 (by rw [setd_cond h2]; exact hc) h⟩)
    · exact .inr (.inr (.inl ⟨hvj, hfj, hsj, hg, h.1, fun E0 H0 w0 E a w N Q hm hn => h.2 E0 H0 w0 E a w N Q hm fun s' E' v w' hk => hn s' E' v w' ⟨hk.1, ih s' hk.1 hk.2⟩⟩))
    · exact .inr (.inr (.inr ⟨s1, h1, ih s1 (by obtain ⟨_, _, _, _, t, d, ts, k, _, _, _, _, _, _, _, _, rfl⟩ := h1; exact hc) h⟩))

theorem yh_eq {s r s1 : St} {d : Option Nat} {v : AV} {H : List AObj} (h : s.setd d v = some { r with cond := s.cond, hp := s.hp }) (hr : r.hp = H) (h1 : ({ s with hp := H } : St).setd d v = some s1) : s1 = { r with cond := s.cond } := by
  subst hr
  cases d with
  | none =>
    simp only [St.setd, Option.some.injEq] at h h1
    subst h1
    cases r; cases s
    simp only [St.mk.injEq] at h ⊢
    simp [h]
  | some t =>
    simp only [St.setd] at h h1
    cases hb : Nat.blt t s.n with
    | false => rw [hb] at h; cases h
    | true =>
      rw [hb, cond_true, Option.some.injEq] at h h1
      subst h1
      cases r; cases s
      simp only [St.mk.injEq] at h ⊢
      simp [h]

theorem isLoc0_scalar {v : AV} (h : isScalar0 v = true) : isLoc0 v = true := by cases v <;> first | rfl | cases h
theorem isLocA_scalar {v : AV} (h : isScalar0 v = true) : isLocA v = true := by cases v <;> first | rfl | cases h
theorem isLoc_scalar {v : AV} (h : isScalar v = true) : isLocT v = true := by
  cases v with
  | tup vs => exact List.all_eq_true.2 fun c hc => isLocA_scalar (List.all_eq_true.1 h c hc)
  | _ => first | rfl | cases h
theorem mapT_scalar {g : Nat → Nat} {v : AV} (h : isScalar v = true) : mapT g v = v := by
  cases v with
  | tup vs =>
    show AV.tup (vs.map (mapA g)) = _
    congr 1
    have : ∀ c ∈ vs, mapA g c = c := fun c hc => by
      have := List.all_eq_true.1 h c hc
      cases c <;> first | rfl | cases this
    exact (List.map_congr_left this).trans (List.map_id _)
  | _ => first | rfl | cases h

theorem stp_sound (hT : TTOk P T) {E0 : Env} {H0 : List AObj} {w0 : World} {E : Env} {s s1 : St} {a : Act} {w : World} {o : Oper} {v : AV} {H : List AObj} {i : Nat} (hst : Stp P T own ops o s v H)
    (hs1 : ({ s with hp := H } : St).setd o.dst v = some s1) (hc : s.cond) (hm : Models E0 H0 w0 E s a w) (hoi : ops[i]? = some o) {N : Act → World → Prop} {Q : Exit → Act → World → Prop}
    (hN : ∀ E' x w', Models E0 H0 w0 E' s1 (a.put o.dst x) w' → N (a.put o.dst x) w') : wpOpIn (fen X) 0 P ops Q i N a w := by
  obtain ⟨g, hg, h⟩ := hst
  have hw := guardA_sound hm hg
  simp only [wpOpIn, hoi, hw]
  cases g with
  | false =>
    simp only [Bool.false_eq_true, if_false] at h ⊢
    obtain ⟨rfl, rfl⟩ := h
    exact ⟨fun _ _ => trivial, hN E _ w (hm.setd hs1 Rep.gone)⟩
  | true =>
    simp only [if_true] at h ⊢
    refine wpIn_of_wp (fun c hc => ?_) ?_
    · unfold Yo at h
      rw [hc] at h
      obtain ⟨_, _, r, h1, _⟩ := h
      simp only [opf, hc] at h1; cases h1
    have pure_case : Yw s o.dst v H (opf T own o s) → o.wp P a w N Q := by
      rintro ⟨v0, hwk, r, h1, h2, h3, h4⟩
      obtain ⟨s0, hs0⟩ : ∃ s0, ({ s with hp := H } : St).setd o.dst v0 = some s0 := ⟨_, setd_with h4 H⟩
      have e := yh_eq h4 h3 hs0
      obtain ⟨_, x, w', E', hrun, hr⟩ := opf_sound hT hm h1 h2
      show o.upon P a N Q ((execOp a.eval o).run P w)
      rw [hrun]
      cases x with
      | value v => exact hN E' v w' (((hr.cond _).wk hwk (by rw [hs0, e]) hs1))
      | skip => exact hN E' _ w' (((hr.cond _).wk hwk (by rw [hs0, e]) hs1))
      | _ => exact hr.elim
    unfold Yo at h
    split at h
    · rename_i c hoc
      split at h
      · rename_i f hcal
        have hset : ∀ H, H = s.hp → s1 = s1 → True := fun _ _ _ => trivial
        rcases h with h | h
        rotate_left
        · obtain ⟨g, I, p, h1, h2, h3, h4, h5, h6, h7, rfl, h9, h10, h11⟩ := h
          refine callvH_sound hm hoc hcal h1 (I := I) (K := fun s' => s' = { s1 with cond := True }) ⟨h2, h3, h4, p, h5, h6, h11.mono fun r' H' ⟨e1, e2⟩ => ?_⟩ (fun s' E' x w' e hm' => ?_)
          · subst e1; subst e2
            refine ⟨fun e => ⟨isLoc_scalar h7, h10 e⟩, { s1 with cond := True }, ?_, rfl⟩
            rw [h9, mapT_scalar h7]
            cases hd : o.dst with
            | none => rw [hd] at hs1; simp only [St.setd, Option.some.injEq] at hs1 ⊢; rw [← hs1]
            | some t =>
              rw [hd] at hs1
              simp only [St.setd] at hs1 ⊢
              cases hb : Nat.blt t s.n with
              | false => rw [hb] at hs1; cases hs1
              | true => rw [hb, cond_true, Option.some.injEq] at hs1; rw [← hs1]; rfl
          · subst e
            exact hN E' x w' (hm'.cond s1.cond)
        clear hset
        obtain ⟨g, p, r, Hn, h1, h2, h3, h4, rfl, rfl, h6, h7⟩ := h
        refine callv_sound hm hoc hcal h1 (K := fun s' => s' = { s1 with cond := True }) ⟨h2, p, h3, h4, h7.mono fun r' H' ⟨e1, e2⟩ => ?_⟩ (fun s' E' x w' e hm' => ?_)
        · subst e1; subst e2
          refine ⟨h6, { s1 with cond := True }, ?_, rfl⟩
          cases hd : o.dst with
          | none => rw [hd] at hs1; simp only [St.setd, Option.some.injEq] at hs1 ⊢; rw [← hs1]
          | some t =>
            rw [hd] at hs1
            simp only [St.setd] at hs1 ⊢
            cases hb : Nat.blt t s.n with
            | false => rw [hb] at hs1; cases hs1
            | true => rw [hb, cond_true, Option.some.injEq] at hs1; rw [← hs1]; rfl
        · subst e
          exact hN E' x w' (hm'.cond s1.cond)
      · exact pure_case h
    · exact pure_case h

/-- A slot is filled. -/
def Env.bear (E : Env) (k b : Nat) : Env := { E with ρ := fun i => if i = k then some b else E.ρ i }

theorem Rep.bear {E : Env} {w w' : World} {k b : Nat} (h1 : E.ρ k = none) (h2 : E.κ k = 0) {v : AV} {x : Value} (h : Rep E w v x) (hw : ∀ c, E.F c → w'.heap[c]? = w.heap[c]?) : Rep (E.bear k b) w' v x := by
  induction h with
  | undef x => exact .undef x
  | fz v x h => exact .fz v x (h.mono (fun _ h => h) hw)
  | sl id base len av hi h ha =>
    refine .sl (E := E.bear k b) id base len av hi h (fun hlt => ?_)
    have hlt : base < E.κ id := hlt
    have hne : id ≠ k := by rintro rfl; omega
    show av = (if id = k then some b else E.ρ id).map _
    rw [if_neg hne]; exact ha hlt
  | hptr id idx off c hi h =>
    have hne : id ≠ k := by rintro rfl; rw [h1] at h; cases h
    exact .hptr (E := E.bear k b) id idx off c hi (by show (if id = k then some b else E.ρ id) = _; rw [if_neg hne]; exact h)
  | mp id c hi h =>
    have hne : id ≠ k := by rintro rfl; rw [h1] at h; cases h
    exact .mp (E := E.bear k b) id c hi (by show (if id = k then some b else E.ρ id) = _; rw [if_neg hne]; exact h)
  | agg cells vs hn _ ih => exact .agg cells vs hn ih
  | tup cells vs hn _ ih => exact .tup cells vs hn ih
  | clos f a c xa xc ha hc _ _ ih1 ih2 => exact .clos f a c xa xc ha hc ih1 ih2

theorem Models.bear {E0 : Env} {H0 : List AObj} {w0 : World} {E : Env} {s : St} {a : Act} {w w' : World} (h : Models E0 H0 w0 E s a w) {k b : Nat} (hk : s.hp[k]? = some .slot) (hbk : s.base ≤ k) (hs : Same w w')
    (hb : w.heap.size ≤ b ∧ b < w'.heap.size) {cs : List AV} (hob : VarRep (E.bear k b) w' k cs) : Models E0 H0 w0 (E.bear k b) { s with hp := s.hp.set k (.var cs) } a w' := by
  obtain ⟨r1, r2, r3⟩ := h.heap.obj k _ hk
  have hF : ∀ c, E.F c → w'.heap[c]? = w.heap[c]? := fun c hc => hs.block c (h.heap.frz c hc)
  have hlv : ∀ i, Live (s.hp.set k (.var cs)) i → i = k ∨ (i ≠ k ∧ Live s.hp i) := by
    rintro i ⟨o, ho, hn⟩
    by_cases e : i = k
    · exact .inl e
    · rw [List.getElem?_set_ne (Ne.symm e)] at ho
      exact .inr ⟨e, o, ho, hn⟩
  have hρk : (E.bear k b).ρ k = some b := if_pos rfl
  have hρn : ∀ i, i ≠ k → (E.bear k b).ρ i = E.ρ i := fun i hi => if_neg hi
  constructor
  · exact h.size
  · intro t; exact (h.tmps t).bear r1 r2 hF
  · refine ⟨by rw [List.length_set]; exact h.heap.len, ?_, ?_, ?_, ?_, ?_⟩
    · intro id o ho
      by_cases e : id = k
      · subst e
        rw [List.getElem?_set_self (List.getElem?_eq_some_iff.1 hk).1] at ho
        cases ho; exact hob
      · rw [List.getElem?_set_ne (Ne.symm e)] at ho
        have hr := h.heap.obj id o ho
        have hblk : o ≠ .dead → ∀ c, E.ρ id = some c → w'.heap[c]? = w.heap[c]? := fun hn c hc => hs.block c (h.heap.lt id c ⟨o, ho, hn⟩ hc)
        cases o with
        | dead => trivial
        | slot => exact ⟨by rw [hρn id e]; exact hr.1, hr.2.1, hr.2.2⟩
        | var ds =>
          obtain ⟨h0, c, arr, ty, h1, h2, h3, h4⟩ := hr
          refine ⟨h0, c, arr, ty, by rw [hρn id e]; exact h1, by rw [hblk (by simp) c h1]; exact h2, h3, fun j u hj => ?_⟩
          obtain ⟨g1, v, g2, g3⟩ := h4 j u hj
          exact ⟨g1, v, g2, g3.bear r1 r2 hF⟩
        | arr sz n row =>
          obtain ⟨h1, h2, h3, h4, h5, h6⟩ := hr
          refine ⟨h1, h2, h3, h4, h5, ?_⟩
          rw [hρn id e]
          have hb' := hblk (by simp)
          cases hρ : E.ρ id with
          | none => rw [hρ] at h6; exact h6
          | some c =>
            rw [hρ] at h6
            obtain ⟨arr, ty, g1, g2, g3⟩ := h6
            refine ⟨arr, ty, by rw [hb' c hρ]; exact g1, g2, fun i j u hi hu => ?_⟩
            obtain ⟨v, hv, hr⟩ := g3 i j u hi hu
            exact ⟨v, hv, hr.mono (fun _ h => h) hF⟩
        | siter ss p => obtain ⟨c, g0, g1, g2, g3⟩ := hr; exact ⟨c, by rw [hρn id e]; exact g0, by rw [hblk (by simp) c g0]; exact g1, g2, g3⟩
        | miter cur left => obtain ⟨c, m, si, se, la, g0, g1, q1, g2, g3⟩ := hr; exact ⟨c, m, si, se, la, by rw [hρn id e]; exact g0, by rw [hblk (by simp) c g0]; exact g1, q1.mono (fun _ h => h) hF, g2, g3⟩
        | raw o => obtain ⟨g, c, g0, g1, g2, g3⟩ := hr; exact ⟨g, c, by rw [hρn id e]; exact g0, by rw [hblk (by simp) c g0]; exact g1, g2, g3⟩
        | map es =>
          obtain ⟨c, mes, clock, g0, g1, g2, g3, g4⟩ := hr
          refine ⟨c, mes, clock, by rw [hρn id e]; exact g0, by rw [hblk (by simp) c g0]; exact g1, g2, fun i u hu => ?_, g4⟩
          obtain ⟨me, h1, h2, h3⟩ := g3 i u hu
          exact ⟨me, h1, h2.mono (fun _ h => h) hF, h3.mono (fun _ h => h) hF⟩
    · intro id c hl hc
      rcases hlv id hl with e | ⟨e, hl⟩
      · subst e; rw [hρk] at hc; cases hc; exact hb.2
      · rw [hρn id e] at hc; exact Nat.lt_of_lt_of_le (h.heap.lt id c hl hc) hs.size
    · intro id c hl hc hFc
      rcases hlv id hl with e | ⟨e, hl⟩
      · subst e; rw [hρk] at hc; cases hc; have := h.heap.frz b hFc; omega
      · rw [hρn id e] at hc; exact h.heap.fr id c hl hc hFc
    · intro i j c hi hj hci hcj
      rcases hlv i hi with ei | ⟨ei, hi2⟩ <;> rcases hlv j hj with ej | ⟨ej, hj2⟩
      · omega
      · subst ei; rw [hρk] at hci; cases hci; rw [hρn j ej] at hcj; have := h.heap.lt j b hj2 hcj; omega
      · subst ej; rw [hρk] at hcj; cases hcj; rw [hρn i ei] at hci; have := h.heap.lt i b hi2 hci; omega
      · rw [hρn i ei] at hci; rw [hρn j ej] at hcj; exact h.heap.inj i j c hi2 hj2 hci hcj
    · intro c hc; exact Nat.lt_of_lt_of_le (h.heap.frz c hc) hs.size
  · exact ⟨h.base.1, by rw [List.length_set]; exact h.base.2⟩
  · intro id hi
    have hi : id < s.base := hi
    have hne : id ≠ k := by omega
    obtain ⟨a1, a2, a3, a4, a5⟩ := h.old id hi
    refine ⟨fun hl => ?_, by rw [hρn id hne]; exact a2, a3, a4, a5⟩
    rcases hlv id hl with e | ⟨e, hl⟩
    · exact absurd e hne
    · exact a1 hl
  · intro id c hi hl hc
    rcases hlv id hl with e | ⟨e, hl⟩
    · subst e; rw [hρk] at hc; cases hc; exact .inl (Nat.le_trans h.keeps.size hb.1)
    · rw [hρn id e] at hc; exact h.new id c hi hl hc
  · exact h.F
  · exact h.Fnew
  · exact h.keeps.trans (O' := fun _ => False) hs.keeps (fun _ _ h => h.elim)
  · exact h.laid

theorem slot_sound (hT : TTOk P T) {E0 : Env} {H0 : List AObj} {w0 : World} {E : Env} {s s1 : St} {a : Act} {w : World} {o : Oper} (h1 : SlotOp T own B R o s s1) (h : Models E0 H0 w0 E s a w) :
    ∃ x w' E', (execOp a.eval o).run P w = .ok (.value x) w' ∧ Models E0 H0 w0 E' s1 (a.put o.dst x) w' := by
  obtain ⟨_, _, _, _, t, d, ts, k, g1, g2, g3, g4, g5, g6, g7, g8, rfl⟩ := h1
  obtain ⟨_, ⟨i, dd, z, hi, hu, hsz, hby, hk, hz, hzl, hzs, hzr⟩⟩ := hT t ts g3
  obtain ⟨r1, r2, r3⟩ := h.heap.obj k _ g7
  have hm := h.bear g7 g6 (Same.alloc w (.cells z.cells t)) (b := w.heap.size) ⟨Nat.le_refl _, by simp⟩ (cs := ts.zero)
    ⟨r3, w.heap.size, z.cells, t, if_pos rfl, heap_alloc_new w _, hzl, fun j c hj => by
      obtain ⟨q1, q2⟩ := hzr j c hj
      have hj' : j < z.cells.size := by rw [hzl]; exact get_lt hj
      refine ⟨isFree_isCell q1, z.cells[j], Array.getElem?_eq_getElem hj', .fz _ _ ?_⟩
      have := (q2 (E.bear k w.heap.size).F (w.alloc (.cells z.cells t))).1
      simpa [Array.getD, hj'] using this⟩
  have hset : ({ s with hp := s.hp.set k (.var ts.zero) } : St).setd o.dst (.hptr k 0 0) = some { s with ch := (d, .hptr k 0 0) :: s.ch, hp := s.hp.set k (.var ts.zero) } := by
    rw [g2]; simp only [St.setd, g8, cond_true]
  refine ⟨.pointer (some ⟨w.heap.size, 0, none⟩), w.alloc (.cells z.cells t), _, by simp [execOp, g1, Instr.alloc, zeroValue, typeInfo, hi, hz, newVar, newRow], hm.setd hset ?_⟩
  have := Rep.hptr (E := E.bear k w.heap.size) (w := w.alloc (.cells z.cells t)) k 0 0 w.heap.size (by show k < E.N; rw [h.heap.len]; exact (List.getElem?_eq_some_iff.1 g7).1) (if_pos rfl)
  have hω : (E.bear k w.heap.size).ω k = 0 := r3
  rw [hω] at this
  simpa using this

/-- What has been listed is closed under what binds. -/
def Closed (ops : Array Oper) (listed : Array Bool) : Prop := ∀ k o, ops[k]? = some o → listed.getD k true = true → ∀ e ∈ o.after, Region.binds .any e = true → listed.getD e.on false = true

theorem any_sound (hT : TTOk P T) (hB : drawnB own ops = true) (hK : ∀ s s', Eqv s s' → s.cond → K s → K s') {E0 : Env} {H0 : List AObj} {w0 : World} {Q : Exit → Act → World → Prop}
    (hQ : ∀ s E a w, K s → DO X E0 H0 w0 a → Models E0 H0 w0 E s a w → Q .normal a w) :
    ∀ (n : Nat) (is : List Nat) (listed : Array Bool) (s : St) (E : Env) (a : Act) (w : World), is.length ≤ n → is.Pairwise (· < ·) → (∀ i, i ∈ is ↔ i < ops.size ∧ listed.getD i true = false) →
      Closed ops listed → listed.size = ops.size → s.cond → regI P T own ops B R K is s → DO X E0 H0 w0 a → Models E0 H0 w0 E s a w → wpAnyIn (fen X) 0 P .any ops Q n listed a w := by
  have hback : ∀ i o, ops[i]? = some o → ∀ e ∈ o.after, Region.binds .any e = true → e.on < i := by
    intro i o ho e he hb
    have hi := (Array.getElem?_eq_some_iff.1 ho).1
    have h := List.all_eq_true.1 hB i (List.mem_range.2 hi)
    rw [Bool.and_eq_true, ho] at h
    have := Array.all_eq_true_iff_forall_mem.1 h.1 e he
    simp only [hb, Bool.not_true, Bool.false_or] at this
    exact Nat.le_of_ble_eq_true this
  have hpair : ∀ i, i < ops.size → ∀ j, j < i → directB ops i j = true ∨ swapB own ops j i = true ∨ reachB ops 12 i j = true := by
    intro i hi j hj
    have h := List.all_eq_true.1 hB i (List.mem_range.2 hi)
    rw [Bool.and_eq_true] at h
    have h2 := List.all_eq_true.1 h.2 j (List.mem_range.2 hj)
    rw [Bool.or_eq_true, Bool.or_eq_true] at h2
    rcases h2 with (h2 | h2) | h2
    · exact .inl h2
    · exact .inr (.inl h2)
    · exact .inr (.inr h2)
  have hdir : ∀ i j, directB ops i j = true → ∃ o, ops[i]? = some o ∧ ∃ e ∈ o.after, Region.binds .any e = true ∧ e.on = j := by
    intro i j h
    unfold directB at h
    cases ho : ops[i]? with
    | none => rw [ho] at h; cases h
    | some o =>
      rw [ho] at h
      obtain ⟨e, he, hb⟩ := Array.any_eq_true'.1 h
      rw [Bool.and_eq_true] at hb
      exact ⟨o, rfl, e, he, hb.1, Nat.eq_of_beq_eq_true hb.2⟩
  -- all have come up
  have hdone : ∀ (is : List Nat) (listed : Array Bool), is.Pairwise (· < ·) → (∀ i, i ∈ is ↔ i < ops.size ∧ listed.getD i true = false) → listed.size = ops.size → Region.ready .any ops listed = [] → is = [] := by
    intro is listed hs hi hsz hr
    cases is with
    | nil => rfl
    | cons i is =>
      exfalso
      obtain ⟨hil, hun⟩ := (hi i).1 (by simp)
      have : i ∈ Region.ready .any ops listed := by
        rw [mem_ready]
        refine ⟨hun, ops[i], Array.getElem?_eq_getElem hil, fun e he hb => ?_⟩
        have hlt := hback i _ (Array.getElem?_eq_getElem hil) e he hb
        cases hl : listed.getD e.on false with
        | true => rfl
        | false =>
          exfalso
          have hmem : e.on ∈ i :: is := (hi e.on).2 ⟨by omega, by
            have : e.on < listed.size := by omega
            simp only [Array.getD, this, dif_pos] at hl ⊢; exact hl⟩
          rcases List.mem_cons.1 hmem with q | q
          · omega
          · have := (List.pairwise_cons.1 hs).1 e.on q; omega
      rw [hr] at this; cases this
  intro n
  induction n with
  | zero =>
    intro is listed s E a w hn hs hi hcl hsz hc hreg hd hm
    have : is = [] := List.length_eq_zero_iff.1 (by omega)
    subst this
    refine ⟨?_, hQ s E a w hreg hd hm⟩
    cases hr : Region.ready .any ops listed with
    | nil => rfl
    | cons i rs =>
      exfalso
      have : i ∈ Region.ready .any ops listed := by rw [hr]; simp
      obtain ⟨h1, o, h2, _⟩ := mem_ready.1 this
      have := (hi i).2 ⟨(Array.getElem?_eq_some_iff.1 h2).1, h1⟩
      cases this
  | succ n ih =>
    intro is listed s E a w hn hs hi hcl hsz hc hreg hd hm
    refine ⟨fun hr => ?_, fun i hir => ?_⟩
    · have := hdone is listed hs hi hsz hr
      subst this
      exact hQ s E a w hreg hd hm
    · obtain ⟨hun, oi, hoi, hall⟩ := mem_ready.1 hir
      have hil := (Array.getElem?_eq_some_iff.1 hoi).1
      obtain ⟨pre, post, rfl⟩ := List.append_of_mem ((hi i).2 ⟨hil, hun⟩)
      -- those ahead of it in the text may change places with it
      have hpw := List.pairwise_append.1 hs
      have hsw : ∀ j ∈ pre, swapB own ops j i = true ∧ freeB ops j i = true ∧ freeB ops i j = true := by
        intro j hj
        have hji : j < i := hpw.2.2 j hj i (by simp)
        have hju : listed.getD j true = false := ((hi j).1 (by simp [hj])).2
        have hnl : listed.getD j false = true → False := fun h => by
          have : j < listed.size := by omega
          simp only [Array.getD, this, dif_pos] at h hju
          rw [h] at hju; cases hju
        have good : ∀ k, listed.getD k false = true → ∀ m, directB ops k m = true → listed.getD m false = true := by
          intro k hk m hd
          obtain ⟨ok, hok, e', he', hb', heq'⟩ := hdir k m hd
          have hkt : listed.getD k true = true := by
            have hkl := (Array.getElem?_eq_some_iff.1 hok).1
            have : k < listed.size := by omega
            simp only [Array.getD, this, dif_pos] at hk ⊢; exact hk
          exact heq' ▸ hcl k ok hok hkt e' he' hb'
        have good0 : ∀ m, directB ops i m = true → listed.getD m false = true := by
          intro m hd
          obtain ⟨o, ho, e, he, hb, heq⟩ := hdir i m hd
          rw [hoi] at ho; cases ho
          exact heq ▸ hall e he hb
        have hreach : ∀ (n k : Nat), (∀ m, directB ops k m = true → listed.getD m false = true) → reachB ops n k j = true → listed.getD j false = true := by
          intro n
          induction n with
          | zero => intro k hg hr; exact hg j hr
          | succ n ihn =>
            intro k hg hr
            have hr : (directB ops k j || ((ops[k]?).map fun o => o.after.any fun e => Region.binds .any e && reachB ops n e.on j).getD false) = true := hr
            rw [Bool.or_eq_true] at hr
            rcases hr with hr | hr
            · exact hg j hr
            · cases hok : ops[k]? with
              | none => rw [hok] at hr; cases hr
              | some ok =>
                rw [hok] at hr
                obtain ⟨e, he, hb⟩ := Array.any_eq_true'.1 hr
                rw [Bool.and_eq_true] at hb
                have hd : directB ops k e.on = true := by
                  unfold directB
                  rw [hok]
                  exact Array.any_eq_true'.2 ⟨e, he, by rw [hb.1]; simp⟩
                exact ihn e.on (good e.on (hg e.on hd)) hb.2
        have hnd : directB ops i j = true → False := fun h => by
          obtain ⟨o, ho, e, he, hb, heq⟩ := hdir i j h
          rw [hoi] at ho; cases ho
          exact (hnl (heq ▸ hall e he hb)).elim
        have hnr : reachB ops 12 i j = true → False := fun h => (hnl (hreach 12 i good0 h)).elim
        have hdep : depB ops i j = false := by
          cases hd : depB ops i j with
          | false => rfl
          | true =>
            unfold depB at hd
            rw [Bool.or_eq_true] at hd
            rcases hd with hd | hd
            · exact (hnd hd).elim
            · exact (hnr hd).elim
        refine ⟨?_, ?_, ?_⟩
        · rcases hpair i hil j hji with h | h | h
          · exact (hnd h).elim
          · exact h
          · exact (hnr h).elim
        · have e1 : Nat.blt i ops.size = true := by unfold Nat.blt; exact Nat.ble_eq_true_of_le hil
          have e2 : Nat.blt j i = true := by unfold Nat.blt; exact Nat.ble_eq_true_of_le hji
          simp only [freeB, e1, e2, hdep, cond_true, Bool.not_false, Bool.and_true]
        · have e1 : Nat.blt j ops.size = true := by unfold Nat.blt; exact Nat.ble_eq_true_of_le (by omega)
          have e2 : Nat.blt i j = false := by
            cases h : Nat.blt i j with
            | false => rfl
            | true => have := Nat.le_of_ble_eq_true h; omega
          simp only [freeB, e1, e2, hdep, cond_false, Bool.not_false, Bool.and_true]
      have hb := bubble hK pre s hc hsw hreg
      obtain ⟨o, ho, hb⟩ := hb
      rw [hoi] at ho; cases ho
      -- behind it
      have hnext : ∀ s1 E' x w', s1.cond → regI P T own ops B R K (pre ++ post) s1 → Models E0 H0 w0 E' s1 (a.put oi.dst x) w' → wpAnyIn (fen X) 0 P .any ops Q n (listed.setIfInBounds i true) (a.put oi.dst x) w' := by
        intro s1 E' x w' hc1 hr1 hm1
        refine ih (pre ++ post) _ s1 E' _ w' (by simp only [List.length_append, List.length_cons] at hn ⊢; omega) ?_ ?_ ?_ (by simpa using hsz) hc1 hr1 (hd.put _ _) hm1
        · exact List.pairwise_append.2 ⟨hpw.1, (List.pairwise_cons.1 hpw.2.1).2, fun x hx y hy => hpw.2.2 x hx y (by simp [hy])⟩
        · intro k
          constructor
          · intro hk
            have hki : k ≠ i := by
              rintro rfl
              rcases List.mem_append.1 hk with q | q
              · have := hpw.2.2 k q k (by simp); omega
              · have := (List.pairwise_cons.1 hpw.2.1).1 k q; omega
            obtain ⟨h1, h2⟩ := (hi k).1 (by
              rcases List.mem_append.1 hk with q | q
              · simp [q]
              · simp [q])
            exact ⟨h1, by rw [getD_set_ne true (Ne.symm hki)]; exact h2⟩
          · rintro ⟨h1, h2⟩
            have hki : k ≠ i := by
              rintro rfl
              have : k < listed.size := by omega
              simp [this] at h2
            rw [getD_set_ne true (Ne.symm hki)] at h2
            have := (hi k).2 ⟨h1, h2⟩
            rcases List.mem_append.1 this with q | q
            · simp [q]
            · rcases List.mem_cons.1 q with q | q
              · exact absurd q hki
              · simp [q]
        · intro k o hok hk e he hbd
          by_cases hki : k = i
          · subst hki
            rw [hoi] at hok; cases hok
            exact getD_set_true (hall e he hbd)
          · rw [getD_set_ne true (Ne.symm hki)] at hk
            exact getD_set_true (hcl k o hok hk e he hbd)
      rcases hb with ⟨hv, v, s1, h1, h2, h3⟩ | ⟨hv, hf, v, f, s1, h1, hF, hR, h2, h3⟩ | ⟨hv, hf, hs, hg, h⟩ | ⟨s1, h1, h3⟩
      · exact stp_sound hT (h1 s ⟨⟨rfl, rfl⟩, hc, fun _ _ => rfl, fun _ _ => rfl⟩) (by exact h2) hc hm hoi fun E' x w' hm' => hnext s1 E' x w' (by rw [setd_cond h2]; exact hc) h3 hm'
      · exact stp_sound hT (h1 s ⟨⟨rfl, rfl⟩, hc, fun _ _ => rfl, HpE.refl _ _, rfl⟩) h2 hc hm hoi fun E' x w' hm' => hnext s1 E' x w' (by rw [setd_cond h2]; exact hc) h3 hm'
      · simp only [wpOpIn, hoi, Region.wanted, hg, if_true]
        exact wpIn_of_wp h.1 (h.2 E0 H0 w0 E a w _ _ hm fun s' E' x w' hk hm' => hnext s' E' x w' hk.1 hk.2 hm')
      · have hg := h1.guard
        have hc1 : s1.cond := by obtain ⟨_, _, _, _, t, d, ts, k, _, _, _, _, _, _, _, _, rfl⟩ := h1; exact hc
        simp only [wpOpIn, hoi, Region.wanted, hg, if_true]
        have hnd : ∀ c, oi.op ≠ .defer c := by
          obtain ⟨t, d, ts, k, e, _⟩ := h1.go
          intro c hc; rw [e] at hc; cases hc
        refine wpIn_of_wp hnd ?_
        obtain ⟨x, w', E', hrun, hm'⟩ := slot_sound hT h1 hm
        show oi.upon P a _ _ ((execOp a.eval oi).run P w)
        rw [hrun]
        exact hnext s1 E' x w' hc1 h3 hm'

/-- A region whose order is drawn. -/
theorem Wp.drawnS1 (B : List Nat) (hT : TTOk P T) (hM : P.follows .mixedOrders = true) {id : Nat} {b : Code} {Q Q0 : Exit → St → Prop} {s : St} (R : Nat → List Nat) (hB : drawnB own ops = true) (hc : s.cond)
    (h : regI P T own ops B R (Wp P X b Q) (List.range ops.size) s) : Wp P X (.region id ops true) (seqQ (Wp P X b Q) Q0) s := fun E0 H0 w0 E a w hd hm => by
  refine wpIn_region_any hM ?_
  refine any_sound (Q := MQ X E0 H0 w0 (seqQ (Wp P X b Q) Q0)) hT hB (fun s s' he _ hk E0 H0 w0 E a w hd hm => hk E0 H0 w0 E a w hd (hm.eqv he.symm)) (fun s E a w hk hd hm => MQ.of hd hk hm) ops.size (List.range ops.size) _ s E a _ (by simp) List.pairwise_lt_range ?_ ?_ (by simp) hc h hd (hm.same (Same.drew w))
  · intro i
    simp only [List.mem_range]
    constructor
    · intro hi; exact ⟨hi, by simp [Array.getD, hi]⟩
    · exact fun h => h.1
  · intro k o hok hk
    have hkl := (Array.getElem?_eq_some_iff.1 hok).1
    simp [Array.getD, hkl] at hk

theorem Wp.drawnS (B : List Nat) (hT : TTOk P T) (hM : P.follows .mixedOrders = true) {id : Nat} {b : Code} {Q : Exit → St → Prop} {s : St} (R : Nat → List Nat) (hB : drawnB own ops = true) (hc : s.cond)
    (h : regI P T own ops B R (Wp P X b Q) (List.range ops.size) s) : Wp P X (.seq (.region id ops true) b) Q s := Wp.seq (Wp.drawnS1 B hT hM R hB hc h)

theorem Wp.drawn1 (hT : TTOk P T) (hM : P.follows .mixedOrders = true) {id : Nat} {b : Code} {Q Q0 : Exit → St → Prop} {s : St} (R : Nat → List Nat) (hB : drawnB own ops = true) (hc : s.cond)
    (h : regI P T own ops [] R (Wp P X b Q) (List.range ops.size) s) : Wp P X (.region id ops true) (seqQ (Wp P X b Q) Q0) s := Wp.drawnS1 [] hT hM R hB hc h

theorem Wp.drawn (hT : TTOk P T) (hM : P.follows .mixedOrders = true) {id : Nat} {b : Code} {Q : Exit → St → Prop} {s : St} (R : Nat → List Nat) (hB : drawnB own ops = true) (hc : s.cond)
    (h : regI P T own ops [] R (Wp P X b Q) (List.range ops.size) s) : Wp P X (.seq (.region id ops true) b) Q s := Wp.drawnS [] hT hM R hB hc h

end
end Go.Av

/- The Av framework: contracts of functions. No law is proved here. -/
import Derived.Test.YtgbgmijighbfbaaGv16
set_option linter.unusedSimpArgs false
set_option linter.unusedVariables false
set_option linter.unusedSectionVars false
namespace Go.Av

theorem bind_congr1 {α β : Type} {x y : Option α} {f : α → Option β} (h : x = y) : x.bind f = y.bind f := by rw [h]
theorem map_congr1 {α β : Type} {x y : Option α} {f : α → β} (h : x = y) : x.map f = y.map f := by rw [h]
theorem cond_congr1 {α : Type} {b b' : Bool} {x y : α} (h : b = b') : (bif b then x else y) = bif b' then x else y := by rw [h]

def Fn (P : Program) (f : FuncId) : Prop := ∃ fn, P.funcs[f]? = some fn ∧ fn.body.isSome = true ∧ fn.name ≠ "runtime.NumGoroutine"

/-- A function's contract: at these arguments it ends with this result and these new objects. -/
structure Con (P : Program) (f : FuncId) (args : List AV) (r : AV) (H' : List AObj) : Prop where
  fn : Fn P f
  calls : CallsA P f args [] fun r' H'' => r' = r ∧ H'' = H'

inductive All2 (R : AV → AV → Prop) : List AV → List AV → Prop
  | nil : All2 R [] []
  | cons {a b as bs} (h : R a b) (t : All2 R as bs) : All2 R (a :: as) (b :: bs)

theorem All2.len {R : AV → AV → Prop} {as bs : List AV} (h : All2 R as bs) : bs.length = as.length := by
  induction h with
  | nil => rfl
  | cons _ _ ih => simp [ih]

theorem All2.get {R : AV → AV → Prop} {as bs : List AV} (h : All2 R as bs) : ∀ (i : Nat) (a b : AV), as[i]? = some a → bs[i]? = some b → R a b := by
  induction h with
  | nil => intro i a b ha; simp at ha
  | cons h _ ih =>
    intro i a b ha hb
    cases i with
    | zero => simp at ha hb; subst ha; subst hb; exact h
    | succ i => exact ih i a b (by simpa using ha) (by simpa using hb)

section
variable {hp : List AObj} {L : List (Option Nat)} {base : Nat}
theorem AvLe.tups {cs cs' : List AV} (h : All2 (AvLe hp L base) cs cs') : AvLe hp L base (.tup cs) (.tup cs') := .tup _ _ h.len h.get
theorem AvLe.aggs {cs cs' : List AV} (h : All2 (AvLe hp L base) cs cs') : AvLe hp L base (.agg cs) (.agg cs') := .agg _ _ h.len h.get

/-- An owned slice is handed on frozen. -/
theorem AvLe.frz' {id b n n' : Nat} {sz m : Nat} {row row' : Nat → List AV} (h : hp[id]? = some (.arr sz m row)) (hL : L = []) (hb : base = 0) (hn' : n' = n) (hn : b + n ≤ m) (hr : ∀ i, i < n → row (b + i) = row' i) : AvLe hp L base (.sl id b n) (.list n' row') := by
  subst hn'
  exact .frz id b n' sz m row row' h (by omega) (by rw [hL]; simp) hn hr

theorem AvLe.eq {v v' : AV} (h : v = v') (hf : isFree v = true) : AvLe hp L base v v' := by subst h; exact .refl _ hf

theorem AvLe.list' {n n' : Nat} {row row' : Nat → List AV} (hn : n' = n) (h : ∀ i, i < n → row i = row' i) : AvLe hp L base (.list n row) (.list n' row') := by
  subst hn
  exact .list _ _ _ h
end

section
variable {P : Program} {T : TT} {own : Nat → Bool}

theorem con_of (hT : TTOk P T) {f : FuncId} {fn : Func} {c : Code} (hf : P.funcs[f]? = some fn) (hb : fn.body = some c) {n : Nat} (hn : fn.ntmps = n) {rs : List ResultVar} (hrs : fn.results.toList = rs)
    (hname : (fn.name == "runtime.NumGoroutine") = false) {args : List AV} {r : AV} {H' : List AObj} (hlen : args.length ≤ n)
    (h : Wp P c (endQ T rs 0 fun r' H'' => r' = r ∧ H'' = H') { ch := argsCh 0 args, hp := [], base := 0, n := n, cond := True }) : Con P f args r H' :=
  ⟨⟨fn, hf, by rw [hb]; rfl, by simpa using hname⟩, callsA_of hT hf hb hn hrs hlen h⟩

theorem Con.eq {f : FuncId} {args args' : List AV} {r r' : AV} {H H' : List AObj} (h : Con P f args r H) (ha : args = args') (hr : r = r') (hH : H = H') : Con P f args' r' H' := by subst ha; subst hr; subst hH; exact h

/-- A function's end. -/
theorem endQ_ret {rs : List ResultVar} {s : St} {v r : AV} {H' : List AObj} (L : List (Option Nat)) (hv : resA T s rs = some v) (hl : RelocH L 0 s.hp H') (hle : AvLe s.hp L 0 v r) : endQ T rs 0 (fun r' H'' => r' = r ∧ H'' = H') .ret s :=
  ⟨.inr rfl, v, hv, L, r, H', hl, hle, rfl, rfl⟩

/-- A function's end: nothing of the heap is handed on. -/
theorem endQ_ret0 {rs : List ResultVar} {s : St} {v r : AV} (hv : resA T s rs = some v) (hle : AvLe s.hp [] 0 v r) : endQ T rs 0 (fun r' H'' => r' = r ∧ H'' = []) .ret s :=
  endQ_ret [] hv relocH_nil hle

/-- A call within a region. -/
theorem regv_call {ops : Array Oper} {o : Oper} {os : List Oper} {K : St → Prop} {s s' : St} {c : Call} {f : Operand} {g : FuncId} {ags : List AV} {p1 : List AV} {pc : Prop} {pl : Bool} {r : AV} {H' : List AObj}
    (hc : Con P g p1 r H') (ho : o.op = .call c) (hcal : c.callee = .value f) (hg : guardA ops s o = some true) (hcl : calleeA s f c.args.toList = some (g, ags)) (hp : toArgs s.hp ags = some (p1, pc, pl)) (hpc : pc)
    (hl : pl = true → H' = [] ∧ isScalar r = true) (hs : ({ s with hp := s.hp ++ H'.map (objShift s.hp.length), cond := True } : St).setd o.dst (shift s.hp.length r) = some s') (hk : regv P T own ops os K s') : regv P T own ops (o :: os) K s := by
  refine regv_op hg ?_
  unfold opv
  rw [ho]
  simp only
  rw [hcal]
  simp only
  exact ⟨(g, ags), hcl, hc.fn, (p1, pc, pl), hp, hpc, hc.calls.mono fun r' H'' ⟨h1, h2⟩ => by subst h1; subst h2; exact ⟨hl, s', hs, hk⟩⟩

theorem loopQ_next {α : Type} {S : α → St} {m : α → Nat} {G : α → Prop} {Q : Exit → St → Prop} {x : α} {s : St} (y : α) (h1 : G y) (h2 : m y < m x) (h3 : Reloc s (S y)) : loopQ S m G Q x .normal s := ⟨y, h1, h2, h3⟩

theorem wrap_succ (i : Nat) (h : i ≤ 4611686018427387904) : IntKind.i64.wrap ((i : Int) + 1) = ((i + 1 : Nat) : Int) := by rw [IntKind.wrap_i64]; omega

theorem regv_nil {ops : Array Oper} {K : St → Prop} {s : St} (h : K s) : regv P T own ops [] K s := h

theorem regv_isnil {ops : Array Oper} {o : Oper} {os : List Oper} {K : St → Prop} {s : St} {op : BinOp} {t u : TypeId} {x y : Operand} {n : Nat} {row : Nat → List AV} {ts : TS} {e : TypeId}
    (ho : o.op = .binOp op t x y u) (hop : op = .eql ∨ op = .neq) (hx : s.ev x = .list n row) (hy : s.ev y = .nilsl) (hts : T t = some ts) (hk : ts.kind = .slice e) (hg : guardA ops s o = some true)
    (h : ∀ b : Bool, (b = true → n = 0) → ∃ s', s.setd o.dst (.bool (if op = .eql then b else !b)) = some s' ∧ regv P T own ops os K { s' with cond := True }) : regv P T own ops (o :: os) K s := by
  refine regv_op hg ?_
  unfold opv
  rw [ho]
  exact .inr ⟨op, t, x, y, u, n, row, ts, e, ho, hop, hx, hy, hts, hk, h⟩

end
end Go.Av

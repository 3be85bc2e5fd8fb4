/- The Av framework: operations on values. No law is proved here. -/
import Derived.Test.YtgbgmijighbfbaaGv4
import Derived.Laws.Strings
import Derived.Laws.StructEq
set_option linter.unusedSimpArgs false
set_option linter.unusedVariables false
set_option linter.unusedSectionVars false
namespace Go.Av

section
variable {E0 : Env} {H0 : List AObj} {w0 : World} {E : Env} {s s' : St} {a : Act} {w : World} {P : Program} {T : TT} {o : Oper}

theorem ofNat_toNat {i : Int} {n : Nat} (h0 : 0 ≤ i) (h1 : i < (n : Int)) : i.toNat < n := by omega

theorem opIndexAddr_sound (hT : TTOk P T) (h : Models E0 H0 w0 E s a w) {t : TypeId} {x y : Operand} (ho : o.op = .indexAddr t x y)
    (hf : opIndexAddr T s o.dst t (s.ev x) (s.ev y) = some s') (hc : s'.cond) : s.cond ∧ Done P o E0 H0 w0 s' a w := by
  simp only [opIndexAddr, Option.bind_eq_some_iff] at hf
  obtain ⟨ts, hts, hf⟩ := hf
  obtain ⟨_, ⟨i, d, z, hi, hu, hsz, hby, hk, _⟩⟩ := hT t ts hts
  have hy := h.ev y
  have hx := h.ev x
  cases hvy : s.ev y with
  | int k n =>
    rw [hvy] at hf hy
    have hay := hy.int'
    cases hkk : ts.kind with
    | slice e =>
      rw [hkk] at hk hf
      cases hk
      simp only [Option.bind_eq_some_iff] at hf
      obtain ⟨te, hte, hf⟩ := hf
      obtain ⟨_, ⟨ie, _, _, hie, _, hies, _⟩⟩ := hT e te hte
      cases hvx : s.ev x with
      | list len row =>
        rw [hvx] at hf hx
        obtain ⟨hc1, ⟨hb1, hb2⟩, hlen⟩ := need_setd hf hc
        refine ⟨hc1, ?_⟩
        have hlt := ofNat_toNat hb1 hb2
        generalize hax : a.eval x = ax at hx
        cases hx with
        | fz _ _ hx =>
          cases hx with
          | empty _ _ _ => omega
          | list _ _ b off cap sz vs hF hcap hsz' hcell hfr hr =>
            have hsz2 : sz = te.size := (hsz' _ hlt).symm.trans hlen
            subst hsz2
            refine Done.value (h.cond _) hf ((.fz _ _ (.fptr _ b (off + n.toNat * te.size) (fun j => vs n.toNat j) hF ?_ ?_ ?_))) ?_
            · intro j c hj; rw [Nat.add_assoc]; exact hcell _ j c hlt hj
            · intro j c hj; exact hfr _ j c hlt hj
            · intro j c hj; exact hr _ j c hlt hj
            · simp [execOp, ho, hax, hay, Instr.indexAt, asIntOf, run_underlying hu, hb1, hb2, sizeOf, typeInfo, hie, hies, addr_add]
      | sl id b len =>
        rw [hvx] at hf hx
        simp only at hf
        cases hid : s.hp[id]? with
        | none => rw [hid] at hf; cases hf
        | some ob =>
          cases ob with
          | arr sz nn row =>
            rw [hid] at hf
            simp only at hf
            cases hbq : Nat.beq sz te.size with
            | false => rw [hbq] at hf; cases hf
            | true =>
              rw [hbq, cond_true] at hf
              have hsz2 := Nat.eq_of_beq_eq_true hbq
              obtain ⟨hc1, hb1, hb2⟩ := need_setd hf hc
              refine ⟨hc1, ?_⟩
              obtain ⟨g1, g2, g3, g4, g5, g6⟩ := h.heap.obj id _ hid
              generalize hax : a.eval x = ax at hx
              cases hx with
              | fz _ _ hx => cases hx
              | sl _ _ _ av hi' hle ha =>
                cases hρ : E.ρ id with
                | none => rw [hρ] at g6; omega
                | some blk =>
                  have ha' := ha (by omega)
                  rw [ha'] at hax
                  refine Done.value (h.cond _) hf ((.hptr id (b + n.toNat) 0 blk hi' hρ)) ?_
                  rw [hρ] at hax
                  have e : (E.ω id + b) * E.σ id + n.toNat * te.size = (E.ω id + (b + n.toNat)) * E.σ id + 0 := by
                    rw [g1, hsz2, Nat.add_zero, ← Nat.add_mul, Nat.add_assoc]
                  simp [execOp, ho, hax, hay, Instr.indexAt, asIntOf, run_underlying hu, hb1, hb2, sizeOf, typeInfo, hie, hies, addr_add, e]
          | _ => rw [hid] at hf; cases hf
      | _ => rw [hvx] at hf; cases hf
    | array len e =>
      rw [hkk] at hk hf
      cases hk
      cases n with
      | negSucc n => cases hf
      | ofNat n =>
        simp only [Option.bind_eq_some_iff] at hf
        obtain ⟨te, hte, hf⟩ := hf
        obtain ⟨_, ⟨ie, _, _, hie, _, hies, _⟩⟩ := hT e te hte
        cases hlt : Nat.blt n len with
        | false => rw [hlt] at hf; cases hf
        | true =>
          rw [hlt, cond_true] at hf
          have hlt' : n < len := by
            have : n + 1 ≤ len := by simpa [Nat.blt] using hlt
            omega
          have run : ∀ b off, a.eval x = .pointer (some ⟨b, off, none⟩) → (execOp a.eval o).run P w = .ok (.value (.pointer (some ⟨b, off + n * te.size, none⟩))) w := by
            intro b off hax
            simp [execOp, ho, hax, hay, Instr.indexAt, Instr.sureAddr, asIntOf, run_underlying hu, hlt', sizeOf, typeInfo, hie, hies, addr_add]
          cases hvx : s.ev x with
          | hptr id idx off =>
            rw [hvx] at hf hx
            refine ⟨cond_setd hf hc, ?_⟩
            generalize hax : a.eval x = ax at hx
            cases hx with
            | fz _ _ hx => cases hx
            | hptr _ _ _ b hi' hb =>
              exact Done.value h hf (.hptr id idx (off + n * te.size) b hi' hb) (by rw [run b _ hax, Nat.add_assoc])
          | fptr cs =>
            rw [hvx] at hf hx
            refine ⟨cond_setd hf hc, ?_⟩
            generalize hax : a.eval x = ax at hx
            cases hx with
            | fz _ _ hx =>
              cases hx with
              | fptr _ b off vs hF hcell hfr hr =>
                refine Done.value h hf ((.fz _ _ (.fptr _ b (off + n * te.size) (fun j => vs (n * te.size + j)) hF ?_ ?_ ?_))) (run b off hax)
                · intro j c hj; rw [List.getElem?_drop] at hj; rw [Nat.add_assoc]; exact hcell _ c hj
                · intro j c hj; rw [List.getElem?_drop] at hj; exact hfr _ c hj
                · intro j c hj; rw [List.getElem?_drop] at hj; exact hr _ c hj
          | _ => rw [hvx] at hf; cases hf
    | _ => rw [hkk] at hf; cases hf
  | _ => rw [hvy] at hf; cases hkk : ts.kind <;> rw [hkk] at hf <;> cases hf

theorem opIndex_sound (hT : TTOk P T) (h : Models E0 H0 w0 E s a w) {t : TypeId} {x y : Operand} (ho : o.op = .index t x y)
    (hf : opIndex T s o.dst t (s.ev x) (s.ev y) = some s') (hc : s'.cond) : s.cond ∧ Done P o E0 H0 w0 s' a w := by
  simp only [opIndex, Option.bind_eq_some_iff] at hf
  obtain ⟨ts, hts, hf⟩ := hf
  obtain ⟨_, ⟨i, d, z, hi, hu, hsz, hby, hk, _⟩⟩ := hT t ts hts
  have hy := h.ev y
  have hx := h.ev x
  cases hkk : ts.kind with
  | array len e =>
    rw [hkk] at hk hf
    cases hk
    cases hvx : s.ev x with
    | agg cs =>
      cases hvy : s.ev y with
      | int k n =>
        rw [hvx] at hf hx
        rw [hvy] at hf hy
        have hay := hy.int'
        simp only [Option.bind_eq_some_iff] at hf
        obtain ⟨te, hte, hf⟩ := hf
        obtain ⟨_, ⟨ie, _, _, hie, _, hies, _⟩⟩ := hT e te hte
        generalize hax : a.eval x = ax at hx
        cases hx with
        | fz _ _ hx => cases hx
        | agg _ vs hn hr =>
          cases hagg : te.isAgg with
          | true =>
            rw [hagg, cond_true] at hf
            obtain ⟨hc1, ⟨hb1, hb2⟩, hlen⟩ := need_setd hf hc
            refine ⟨hc1, ?_⟩
            have hlt := ofNat_toNat hb1 hb2
            have hle : n.toNat * te.size + te.size ≤ cs.length := by
              have : (n.toNat + 1) * te.size ≤ len * te.size := Nat.mul_le_mul_right _ hlt
              rw [Nat.add_mul, Nat.one_mul] at this
              omega
            have hpart := part_run (w := w) (hT e te hte) vs.toArray (n.toNat * te.size) (fun hh => by rw [hagg] at hh; cases hh)
            rw [hagg] at hpart
            simp only [if_true] at hpart
            refine Done.value (x := .agg (vs.toArray.extract (n.toNat * te.size) (n.toNat * te.size + te.size))) (h.cond _) hf (?_) ?_
            · have e : (vs.toArray.extract (n.toNat * te.size) (n.toNat * te.size + te.size)) = ((vs.drop (n.toNat * te.size)).take te.size).toArray := by
                simp [List.extract_toArray, List.extract_eq_take_drop]
              rw [e]
              refine Rep.agg _ _ (by simp; omega) fun j c hj => ?_
              have hj2 : j < te.size ∧ cs[n.toNat * te.size + j]? = some c := by
                rw [List.getElem?_take] at hj
                split at hj
                · rw [List.getElem?_drop] at hj; exact ⟨by assumption, hj⟩
                · cases hj
              have := hr _ c hj2.2
              simp only [List.getD, List.getElem?_take, hj2.1, if_true, List.getElem?_drop] at this ⊢
              exact this
            · simp [execOp, ho, hax, hay, Instr.index, asIntOf, run_underlying hu, hb1, hb2, sizeOf, typeInfo, hie, hies, hpart]
          | false =>
            rw [hagg, cond_false] at hf
            cases hq : Nat.beq te.size 1 with
            | false => rw [hq] at hf; cases hf
            | true =>
              rw [hq, cond_true] at hf
              have h1 := Nat.eq_of_beq_eq_true hq
              obtain ⟨hc1, ⟨hb1, hb2⟩, hlen⟩ := need_setd hf hc
              refine ⟨hc1, ?_⟩
              have hlt := ofNat_toNat hb1 hb2
              have hpart := part_run (w := w) (hT e te hte) vs.toArray (n.toNat * te.size) (fun _ => by rw [h1]; simp; omega)
              rw [hagg] at hpart
              simp only [Bool.false_eq_true, if_false] at hpart
              refine Done.value (x := vs.toArray.getD (n.toNat * te.size) default) (h.cond _) hf (?_) ?_
              · have := hr n.toNat cs[n.toNat] (List.getElem?_eq_getElem (by omega))
                have e2 : cs.getD n.toNat .undef = cs[n.toNat] := by simp [List.getD, show n.toNat < cs.length by omega]
                have e3 : vs.toArray.getD (n.toNat * te.size) default = vs.getD n.toNat default := by
                  rw [h1]; simp [Array.getD, List.getD, show n.toNat < vs.length by omega]
                rw [e2, e3]; exact this
              · simp only [execOp, ho, hax, hay, Instr.index, asIntOf, Sem.run_bind, Sem.run_pure, Result.andThen, run_underlying hu, hb1, hb2, and_self, if_true, sizeOf, typeInfo, run_program, hie, hies, hpart]
      | _ => rw [hvx, hvy] at hf; cases hf
    | _ => rw [hvx] at hf; cases hf
  | str =>
    rw [hkk] at hk hf
    cases hk
    cases hvx : s.ev x with
    | str b =>
      cases hvy : s.ev y with
      | int k n =>
        rw [hvx] at hf hx
        rw [hvy] at hf hy
        obtain ⟨hc1, hb1, hb2⟩ := need_setd hf hc
        refine ⟨hc1, Done.value (h.cond _) hf (Rep.mk_int _ _) ?_⟩
        have hlt := ofNat_toNat hb1 hb2
        have hget : b[n.toNat]? = some (b.data.toList.getD n.toNat 0) := by
          have hl : n.toNat < b.data.toList.length := by simpa using hlt
          rw [List.getD, List.getElem?_eq_getElem hl]
          rw [getElem?_pos b n.toNat hlt]
          rfl
        simp [execOp, ho, hx.str', hy.int', Instr.index, asIntOf, run_underlying hu, hb1, hget]
      | _ => rw [hvx, hvy] at hf; cases hf
    | _ => rw [hvx] at hf; cases hf
  | _ => rw [hkk] at hf; cases hf

theorem opLen_sound (hT : TTOk P T) (h : Models E0 H0 w0 E s a w) {t : TypeId} {x : Operand} {c : Call} (ho : o.op = .call c)
    (h1 : c.callee = .builtin .len) (h2 : c.args.toList = [x]) (h3 : c.argTypes.toList = [t])
    (hf : opLen T s o.dst t (s.ev x) = some s') (hc : s'.cond) : s.cond ∧ Done P o E0 H0 w0 s' a w := by
  have e2 : c.args = #[x] := by rw [← Array.toArray_toList (xs := c.args), h2]
  have e3 : c.argTypes = #[t] := by rw [← Array.toArray_toList (xs := c.argTypes), h3]
  simp only [opLen, Option.bind_eq_some_iff] at hf
  obtain ⟨ts, hts, hf⟩ := hf
  obtain ⟨_, ⟨i, d, z, hi, hu, hsz, hby, hk, _⟩⟩ := hT t ts hts
  have hx := h.ev x
  cases hkk : ts.kind with
  | slice e =>
    rw [hkk] at hk hf
    cases hk
    cases hvx : s.ev x with
    | list n row =>
      rw [hvx] at hf hx
      refine ⟨cond_setd hf hc, Done.value h hf (Rep.mk_int _ _) ?_⟩
      generalize hax : a.eval x = ax at hx
      cases hx with
      | fz _ _ hx => cases hx <;> simp [execOp, ho, resolve, h1, e2, e3, hax, invoke, builtin, Builtin.len_, run_underlying hu, goInt]
    | sl id b n =>
      rw [hvx] at hf hx
      refine ⟨cond_setd hf hc, Done.value h hf (Rep.mk_int _ _) ?_⟩
      generalize hax : a.eval x = ax at hx
      cases hx with
      | fz _ _ hx => cases hx
      | sl _ _ _ _ _ _ _ => simp [execOp, ho, resolve, h1, e2, e3, hax, invoke, builtin, Builtin.len_, run_underlying hu, goInt]
    | nilsl =>
      rw [hvx] at hf hx
      refine ⟨cond_setd hf hc, Done.value h hf (Rep.mk_int _ _) ?_⟩
      generalize hax : a.eval x = ax at hx
      cases hx with
      | fz _ _ hx => cases hx; simp [execOp, ho, resolve, h1, e2, e3, hax, invoke, builtin, Builtin.len_, run_underlying hu, goInt]
    | zsl =>
      rw [hvx] at hf hx
      refine ⟨cond_setd hf hc, Done.value h hf (Rep.mk_int _ _) ?_⟩
      generalize hax : a.eval x = ax at hx
      cases hx with
      | fz _ _ hx => cases hx; simp [execOp, ho, resolve, h1, e2, e3, hax, invoke, builtin, Builtin.len_, run_underlying hu, goInt]
    | _ => rw [hvx] at hf; cases hf
  | str =>
    rw [hkk] at hk hf
    cases hk
    cases hvx : s.ev x with
    | str b =>
      rw [hvx] at hf hx
      refine ⟨cond_setd hf hc, Done.value h hf (Rep.mk_int _ _) ?_⟩
      simp [execOp, ho, resolve, h1, e2, e3, hx.str', invoke, builtin, Builtin.len_, run_underlying hu, goInt]
    | _ => rw [hvx] at hf; cases hf
  | array n e =>
    rw [hkk] at hk hf
    cases hk
    refine ⟨cond_setd hf hc, Done.value h hf (Rep.mk_int _ _) ?_⟩
    simp [execOp, ho, resolve, h1, e2, e3, invoke, builtin, Builtin.len_, run_underlying hu, goInt]
  | map k e =>
    rw [hkk] at hk hf
    cases hk
    cases hvx : s.ev x with
    | nilmap =>
      rw [hvx] at hf hx
      refine ⟨cond_setd hf hc, Done.value h hf (Rep.mk_int _ _) ?_⟩
      generalize hax : a.eval x = ax at hx
      cases hx with
      | fz _ _ hx => cases hx; simp [execOp, ho, resolve, h1, e2, e3, hax, invoke, builtin, Builtin.len_, run_underlying hu, goInt]
    | mp id =>
      rw [hvx] at hf hx
      simp only at hf
      cases hid : s.hp[id]? with
      | none => rw [hid] at hf; cases hf
      | some ob =>
        cases ob with
        | map es =>
          rw [hid] at hf
          refine ⟨cond_setd hf hc, Done.value h hf (Rep.mk_int _ _) ?_⟩
          obtain ⟨b, mes, clock, g0, g1, g2, g3⟩ := h.heap.obj id _ hid
          generalize hax : a.eval x = ax at hx
          cases hx with
          | fz _ _ hx => cases hx
          | mp _ b' _ hb' =>
            rw [g0] at hb'; cases hb'
            simp [execOp, ho, resolve, h1, e2, e3, hax, invoke, builtin, Builtin.len_, run_underlying hu, goInt, getObj, Sem.run, g1, g2]
        | _ => rw [hid] at hf; cases hf
    | _ => rw [hvx] at hf; cases hf
  | _ => rw [hkk] at hf; cases hf

theorem equal_bool {t : TypeId} (hu : P.underlying t = some .bool) (a b : Bool) : (Op.equal t (.bool a) (.bool b)).run P w = .ok (a == b) w := by
  have : ∀ d, (Op.equalIn (d + 1) t (.bool a) (.bool b)).run P w = .ok (a == b) w := by intro d; simp [Op.equalIn, run_underlying hu]
  exact this 9999

theorem run_eql_bool {t : TypeId} (hu : P.underlying t = some .bool) (a b : Bool) : (binOp .eql t (.bool a) (.bool b)).run P w = .ok (.bool (a == b)) w := by
  simp only [binOp, Sem.run_bind, equal_bool hu, Result.andThen, Sem.run_pure]

theorem run_neq_bool {t : TypeId} (hu : P.underlying t = some .bool) (a b : Bool) : (binOp .neq t (.bool a) (.bool b)).run P w = .ok (.bool (!(a == b))) w := by
  simp only [binOp, Sem.run_bind, equal_bool hu, Result.andThen, Sem.run_pure]

theorem str_beq (a b : ByteArray) : (a.toList == b.toList) = decide (a = b) := by
  rw [ByteArray.toList_eq, ByteArray.toList_eq]
  by_cases h : a = b
  · subst h; simp
  · rw [decide_eq_false h, beq_eq_false_iff_ne]
    exact fun e => h (by cases a; cases b; congr 1; exact Array.ext' e)

/-! ### '==' of structs -/

theorem eqC_append : ∀ {as bs : List AV}, as.length = bs.length → ∀ (as' bs' : List AV), eqC (as ++ as') (bs ++ bs') = (eqC as bs).bind fun r => (eqC as' bs').map fun q => r && q
  | [], [], _, as', bs' => by simp [eqC]
  | a :: as, b :: bs, h, as', bs' => by
    have ih := eqC_append (as := as) (bs := bs) (by simpa using h) as' bs'
    simp only [List.cons_append, eqC, ih]
    cases eqA a b with
    | none => rfl
    | some r =>
      cases eqC as bs with
      | none => rfl
      | some q =>
        cases eqC as' bs' with
        | none => rfl
        | some q' => simp [Bool.and_assoc]

theorem eqC_split {as bs : List AV} {k : Nat} {r : Bool} (hk : k ≤ as.length) (hl : as.length = bs.length) (h : eqC as bs = some r) : ∃ r1 r2, eqC (as.take k) (bs.take k) = some r1 ∧ eqC (as.drop k) (bs.drop k) = some r2 ∧ r = (r1 && r2) := by
  have e := eqC_append (as := as.take k) (bs := bs.take k) (by simp; omega) (as.drop k) (bs.drop k)
  rw [List.take_append_drop, List.take_append_drop, h] at e
  cases h1 : eqC (as.take k) (bs.take k) with
  | none => rw [h1] at e; cases e
  | some r1 =>
    cases h2 : eqC (as.drop k) (bs.drop k) with
    | none => rw [h1, h2] at e; cases e
    | some r2 => rw [h1, h2] at e; exact ⟨r1, r2, rfl, rfl, Option.some.inj e⟩

def AtRep (F : Nat → Prop) (w : World) (cs : List AV) (xs : Array Value) (off : Nat) : Prop := off + cs.length ≤ xs.size ∧ ∀ (j : Nat) c, cs[j]? = some c → RepF F w c (xs.getD (off + j) default)

theorem AtRep.take {F : Nat → Prop} {cs : List AV} {xs : Array Value} {off : Nat} (h : AtRep F w cs xs off) (k : Nat) : AtRep F w (cs.take k) xs off :=
  ⟨by have := h.1; simp; omega, fun j c hj => h.2 j c (by rw [List.getElem?_take] at hj; split at hj; exact hj; cases hj)⟩
theorem AtRep.drop {F : Nat → Prop} {cs : List AV} {xs : Array Value} {off : Nat} (h : AtRep F w cs xs off) {k : Nat} (hk : k ≤ cs.length) : AtRep F w (cs.drop k) xs (off + k) :=
  ⟨by have := h.1; simp; omega, fun j c hj => by rw [Nat.add_assoc]; exact h.2 (k + j) c (by rw [List.getElem?_drop] at hj; exact hj)⟩
theorem AtRep.extract {F : Nat → Prop} {cs : List AV} {xs : Array Value} {off : Nat} (h : AtRep F w cs xs off) : AtRep F w cs (xs.extract off (off + cs.length)) 0 := by
  have h1 := h.1
  refine ⟨by simp; omega, fun j c hj => ?_⟩
  have hjl : j < cs.length := by
    rcases Nat.lt_or_ge j cs.length with g | g
    · exact g
    · rw [List.getElem?_eq_none g] at hj; cases hj
  have := h.2 j c hj
  have hx : off + j < xs.size := by omega
  have e1 : xs.getD (off + j) default = xs[off + j] := by simp [Array.getD, hx]
  have hq : j < (xs.extract off (off + cs.length)).size := by simp; omega
  have e2 : (xs.extract off (off + cs.length)).getD (0 + j) default = xs[off + j] := by
    have h3 : j < min (off + cs.length) xs.size - off := by simpa using hq
    rw [Nat.zero_add]; simp [Array.getD, h3]
  rw [e2]; rw [e1] at this; exact this

theorem cks_get : ∀ {ks : List CK} {cs : List AV}, cksB ks cs = true → cs.length = ks.length
  | [], [], _ => rfl
  | k :: ks, c :: cs, h => by
    simp only [cksB, Bool.and_eq_true] at h
    simp [cks_get h.2]

theorem cks_take : ∀ {ks ks' : List CK} {cs : List AV}, cksB (ks ++ ks') cs = true → cksB ks (cs.take ks.length) = true ∧ cksB ks' (cs.drop ks.length) = true
  | [], ks', cs, h => by simpa [cksB] using h
  | k :: ks, ks', [], h => by simp [cksB] at h
  | k :: ks, ks', c :: cs, h => by
    simp only [List.cons_append, cksB, Bool.and_eq_true] at h
    obtain ⟨h1, h2⟩ := cks_take h.2
    simp [cksB, h.1, h1, h2]

def ckT (P : Program) (t : TypeId) : CK → Prop
  | .b => P.underlying t = some .bool
  | .s => P.underlying t = some .string
  | .i k => P.underlying t = some (.int k)

theorem equal_cell {F : Nat → Prop} {a b : AV} {x y : Value} {r : Bool} {t : TypeId} {k : CK} (ha : RepF F w a x) (hb : RepF F w b y) (hka : ckB k a = true) (hkb : ckB k b = true) (he : eqA a b = some r) (d : Nat)
    (ht : ckT P t k) : (Op.equalIn (d + 1) t x y).run P w = .ok r w := by
  cases k with
  | b =>
    cases a <;> simp [ckB] at hka
    cases b <;> simp [ckB] at hkb
    cases ha; cases hb
    simp only [eqA, Option.some.injEq] at he
    subst he
    exact run_equalIn_bool w d t _ _ ht
  | s =>
    cases a <;> simp [ckB] at hka
    cases b <;> simp [ckB] at hkb
    cases ha; cases hb
    simp only [eqA, Option.some.injEq] at he
    subst he
    rw [run_equalIn_string w d t _ _ ht, str_beq]
  | i k =>
    cases a <;> simp [ckB] at hka
    cases b <;> simp [ckB] at hkb
    cases ha; cases hb
    subst hka; subst hkb
    simp only [eqA, decide_true, cond_true, Option.some.injEq] at he
    subst he
    exact run_equalIn_int w d t _ _ _ _ ht

def EqSound (P : Program) (w : World) (F : Nat → Prop) (n : Nat) (t : TypeId) (ks : List CK) : Prop :=
    (∀ (as bs : List AV) (xs ys : Array Value) (off : Nat) (r : Bool), cksB ks as = true → cksB ks bs = true → AtRep F w as xs off → AtRep F w bs ys off → eqC as bs = some r →
      ∃ a b, (part t xs off).run P w = .ok a w ∧ (part t ys off).run P w = .ok b w ∧ ∀ d, n ≤ d → (Op.equalIn d t a b).run P w = .ok r w) ∧
    (∀ fs, P.underlying t = some (.struct fs) → ∀ (as bs : List AV) (xs ys : Array Value) (r : Bool), cksB ks as = true → cksB ks bs = true → AtRep F w as xs 0 → AtRep F w bs ys 0 → eqC as bs = some r →
      ∀ d, n ≤ d → (Op.equalIn d t (.agg xs) (.agg ys)).run P w = .ok r w)

theorem eqT_sound (F : Nat → Prop) : ∀ (n : Nat) (t : TypeId) (ks : List CK), eqT P n t = some ks → EqSound P w F n t ks
  | 0, t, ks, h => by simp [eqT] at h
  | n + 1, t, ks, h => by
    have ih := eqT_sound F n
    -- a scalar
    have scal : ∀ (k : CK), ckT P t k → (∀ fs, P.underlying t ≠ some (.struct fs)) → (isAgg t).run P w = .ok false w → eqOne P t k = some ks → EqSound P w F (n + 1) t ks := by
      intro k hk hns hagg h1
      refine ⟨?_, fun fs hfs => absurd hfs (hns fs)⟩
      simp only [eqOne, Option.bind_eq_some_iff] at h1
      obtain ⟨i, hi, h1⟩ := h1
      cases hb : Nat.beq i.size 1 with
      | false => rw [hb] at h1; cases h1
      | true =>
        rw [hb, cond_true, Option.some.injEq] at h1
        subst h1
        intro as bs xs ys off r ha hb2 hra hrb he
        have hl1 := cks_get ha
        have hl2 := cks_get hb2
        match as, bs, ha, hb2, hl1, hl2, hra, hrb, he with
        | [a], [b], ha, hb2, _, _, hra, hrb, he =>
          simp only [cksB, Bool.and_true] at ha hb2
          have hra0 := hra.2 0 a rfl
          have hrb0 := hrb.2 0 b rfl
          rw [Nat.add_zero] at hra0 hrb0
          have hx : off < xs.size := by have := hra.1; simp at this; omega
          have hy : off < ys.size := by have := hrb.1; simp at this; omega
          refine ⟨xs.getD off default, ys.getD off default, ?_, ?_, fun d hd => ?_⟩
          · simp [part, hagg, hx, Array.getD]
          · simp [part, hagg, hy, Array.getD]
          · obtain ⟨d', rfl⟩ : ∃ d', d = d' + 1 := ⟨d - 1, by omega⟩
            have he' : eqA a b = some r := by
              simp only [eqC, Option.map_some, Bool.and_true] at he
              cases h0 : eqA a b with
              | none => rw [h0] at he; cases he
              | some q => rw [h0] at he; simpa using he
            exact equal_cell hra0 hrb0 ha hb2 he' d' hk
    simp only [eqT] at h
    split at h
    · rename_i hu; exact scal .b hu (fun fs => by rw [hu]; simp) (by simp [isAgg, run_underlying hu]) h
    · rename_i hu; exact scal .s hu (fun fs => by rw [hu]; simp) (by simp [isAgg, run_underlying hu]) h
    · rename_i k hu; exact scal (.i k) hu (fun fs => by rw [hu]; simp) (by simp [isAgg, run_underlying hu]) h
    · rename_i fs hu
      cases hst : P.stoodInHeld t with
      | true => rw [hst] at h; cases h
      | false =>
        rw [hst, cond_false] at h
        simp only [Option.bind_eq_some_iff] at h
        obtain ⟨l, hl, i, hi, h⟩ := h
        cases hb : Nat.beq i.size l.length with
        | false => rw [hb] at h; cases h
        | true =>
          rw [hb, cond_true, Option.some.injEq] at h
          subst h
          have hsz := Nat.eq_of_beq_eq_true hb
          -- the fields
          have hfields : ∀ (fl : List Field) (off : Nat) (ks : List CK), eqF P (eqT P n) off fl = some ks → ∀ (as bs : List AV) (xs ys : Array Value) (r : Bool), cksB ks as = true → cksB ks bs = true → AtRep F w as xs off → AtRep F w bs ys off → eqC as bs = some r →
              ∀ d, n ≤ d → (Op.eqFields d xs ys fl).run P w = .ok r w := by
            intro fl
            induction fl with
            | nil =>
              intro off ks hk as bs xs ys r ha hb2 _ _ he d _
              simp only [eqF, Option.some.injEq] at hk; subst hk
              match as, bs, ha, hb2 with
              | [], [], _, _ => simp only [eqC, Option.some.injEq] at he; subst he; simp [Op.eqFields]
            | cons f fl ihf =>
              intro off ks hk as bs xs ys r ha hb2 hra hrb he d hd
              simp only [eqF] at hk
              cases hq : ((!(f.name == "_")) && Nat.beq f.offset off) with
              | false => rw [hq] at hk; cases hk
              | true =>
                rw [hq, cond_true] at hk
                rw [Bool.and_eq_true] at hq
                have hoff := Nat.eq_of_beq_eq_true hq.2
                have hname : f.name ≠ "_" := by simpa using hq.1
                simp only [Option.bind_eq_some_iff, Option.map_eq_some_iff] at hk
                obtain ⟨l1, h1, l2, h2, rfl⟩ := hk
                have ca := cks_take ha
                have cb := cks_take hb2
                have hla : as.length = l1.length + l2.length := by have := cks_get ha; simpa using this
                have hlb : bs.length = l1.length + l2.length := by have := cks_get hb2; simpa using this
                obtain ⟨r1, r2, e1, e2, rfl⟩ := eqC_split (k := l1.length) (by omega) (by omega) he
                obtain ⟨a, b, p1, p2, p3⟩ := (ih f.type l1 h1).1 _ _ xs ys off r1 ca.1 cb.1 (hra.take _) (hrb.take _) e1
                have := ihf (off + l1.length) l2 h2 _ _ xs ys r2 ca.2 cb.2 (hra.drop (by omega)) (hrb.drop (by omega)) e2 d hd
                rw [Op.eqFields, if_pos hname, hoff]
                simp only [Sem.run_bind, p1, p2, p3 d hd, Result.andThen_ok]
                cases r1
                · simp
                · simpa using this
          have hstruct : ∀ fs', P.underlying t = some (.struct fs') → ∀ (as bs : List AV) (xs ys : Array Value) (r : Bool), cksB l as = true → cksB l bs = true → AtRep F w as xs 0 → AtRep F w bs ys 0 → eqC as bs = some r →
              ∀ d, n + 1 ≤ d → (Op.equalIn d t (.agg xs) (.agg ys)).run P w = .ok r w := by
            intro fs' hfs' as bs xs ys r ha hb2 hra hrb he d hd
            rw [hu] at hfs'; cases hfs'
            obtain ⟨d', rfl⟩ : ∃ d', d = d' + 1 := ⟨d - 1, by omega⟩
            have hf : P.fieldsOf t = fs := by simp [Program.fieldsOf, hu]
            rw [run_equalIn_struct w d' t xs ys (by rw [hf]; exact hu) hst, hf]
            exact hfields fs.toList 0 l hl as bs xs ys r ha hb2 hra hrb he d' (by omega)
          refine ⟨?_, hstruct⟩
          intro as bs xs ys off r ha hb2 hra hrb he
          have hla := cks_get ha
          have hlb := cks_get hb2
          have hagg : (isAgg t).run P w = .ok true w := by simp [isAgg, run_underlying hu]
          have hso : (sizeOf t).run P w = .ok l.length w := by simp [sizeOf, typeInfo, hi, hsz]
          refine ⟨.agg (xs.extract off (off + l.length)), .agg (ys.extract off (off + l.length)), by simp [part, hagg, hso], by simp [part, hagg, hso], ?_⟩
          refine hstruct fs hu as bs _ _ r ha hb2 ?_ ?_ he
          · have := hra.extract; rw [hla] at this; exact this
          · have := hrb.extract; rw [hlb] at this; exact this
    · cases h

theorem opBin_sound (hT : TTOk P T) (h : Models E0 H0 w0 E s a w) {op : BinOp} {t t' : TypeId} {x y : Operand} (ho : o.op = .binOp op t x y t')
    (hf : opBin T s o.dst op t (s.ev x) (s.ev y) = some s') (hc : s'.cond) : s.cond ∧ Done P o E0 H0 w0 s' a w := by
  have hx := h.ev x
  have hy := h.ev y
  unfold opBin at hf
  split at hf
  · rename_i k n k' m hvx hvy
    rw [hvx] at hx; rw [hvy] at hy
    cases hkq : decide (k = k') with
    | false => rw [hkq] at hf; cases hf
    | true =>
      rw [hkq, cond_true] at hf
      have hk : k = k' := of_decide_eq_true hkq
      subst hk
      simp only [Option.bind_eq_some_iff] at hf
      obtain ⟨r, hr, hf⟩ := hf
      obtain ⟨hc1, hc2⟩ := need_setd hf hc
      refine ⟨hc1, ?_⟩
      cases op <;> simp only [intBin, Option.some.injEq, reduceCtorEq] at hr <;> subst hr
      all_goals first
        | (refine Done.value (h.cond _) hf (Rep.mk_int _ _) ?_; simp only at hc2; simp [execOp, ho, hx.int', hy.int', eqGuard, binOp, Op.intArith, Op.intDiv, hc2]; done)
        | (refine Done.value (h.cond _) hf (Rep.mk_bool _) ?_; simp [execOp, ho, hx.int', hy.int', eqGuard, binOp, Op.intCmp]; done)
  · rename_i n m hvx hvy
    rw [hvx] at hx; rw [hvy] at hy
    simp only [Option.bind_eq_some_iff] at hf
    obtain ⟨r, hr, hf⟩ := hf
    obtain ⟨hc1, hc2⟩ := need_setd hf hc
    refine ⟨hc1, ?_⟩
    cases op <;> simp only [strBin, Option.some.injEq, reduceCtorEq] at hr <;> subst hr
    all_goals first
      | (refine Done.value (h.cond _) hf (Rep.mk_bool _) ?_; simp [execOp, ho, hx.str', hy.str', eqGuard, binOp, Op.stringOp]; done)
      | (refine Done.value (h.cond _) hf (Rep.mk_bool _) ?_; simp [execOp, ho, hx.str', hy.str', eqGuard, binOp, Op.stringOp, ← str_beq]; done)
      | (refine Done.value (h.cond _) hf (Rep.mk_str _) ?_
         have hc3 : ¬ (9223372036854775807 < ((n.size : Int) + (m.size : Int))) := by simp only at hc2; omega
         simp [execOp, ho, hx.str', hy.str', eqGuard, binOp, Op.stringOp, IntKind.max, IntKind.signed, IntKind.bits, hc3]; done)
  · rename_i n m hvx hvy
    rw [hvx] at hx; rw [hvy] at hy
    simp only [Option.bind_eq_some_iff] at hf
    obtain ⟨ts, hts, hf⟩ := hf
    obtain ⟨_, ⟨i, d, z, hi, hu, hsz, hby, hk, _⟩⟩ := hT t ts hts
    split at hf
    · rename_i hkk
      rw [hkk] at hk; cases hk
      refine ⟨cond_setd hf hc, Done.value h hf (Rep.mk_bool _) ?_⟩
      simp [execOp, ho, hx.bool', hy.bool', eqGuard, run_eql_bool hu]
    · rename_i hkk
      rw [hkk] at hk; cases hk
      refine ⟨cond_setd hf hc, Done.value h hf (Rep.mk_bool _) ?_⟩
      simp [execOp, ho, hx.bool', hy.bool', eqGuard, run_neq_bool hu]
    · cases hf
  · rename_i as bs hvx hvy
    rw [hvx] at hx; rw [hvy] at hy
    simp only [Option.bind_eq_some_iff] at hf
    obtain ⟨ts, hts, hf⟩ := hf
    cases hb : (ts.isAgg && (!ts.eq.isEmpty) && cksB ts.eq as && cksB ts.eq bs) with
    | false => rw [hb] at hf; cases hf
    | true =>
      rw [hb, cond_true] at hf
      rw [Bool.and_eq_true, Bool.and_eq_true, Bool.and_eq_true] at hb
      obtain ⟨⟨⟨hagg, hb1⟩, hb2⟩, hb3⟩ := hb
      have hb : (True ∧ cksB ts.eq as = true) ∧ cksB ts.eq bs = true := ⟨⟨trivial, hb2⟩, hb3⟩
      simp only [Option.bind_eq_some_iff] at hf
      obtain ⟨r, hr, hf⟩ := hf
      have hTt := hT t ts hts
      have hne : ts.eq ≠ [] := by simpa using hb1
      obtain ⟨heq, hgd⟩ := hTt.eqk hne
      have free : ∀ {ks : List CK} {cs : List AV}, cksB ks cs = true → ∀ (j : Nat) c, cs[j]? = some c → isFree c = true := by
        intro ks
        induction ks with
        | nil => intro cs hk j c hj; cases cs with | nil => simp at hj | cons _ _ => simp [cksB] at hk
        | cons k ks ih =>
          intro cs hk j c hj
          cases cs with
          | nil => simp at hj
          | cons c0 cs =>
            simp only [cksB, Bool.and_eq_true] at hk
            cases j with
            | zero =>
              simp at hj; subst hj
              cases k <;> cases c0 <;> simp [ckB] at hk <;> rfl
            | succ j => exact ih hk.2 j c (by simpa using hj)
      have arr : ∀ {cs : List AV} {v : Value}, cksB ts.eq cs = true → Rep E w (.agg cs) v → ∃ xs : Array Value, v = .agg xs ∧ AtRep E.F w cs xs 0 := by
        intro cs v hk hv
        cases hv with
        | fz _ _ h => cases h
        | agg _ vs hn h =>
          refine ⟨vs.toArray, rfl, by simp [hn], fun j c hj => ?_⟩
          have := (h j c hj).toF (free hk j c hj)
          have hjl : j < vs.length := by
            rw [hn]
            rcases Nat.lt_or_ge j cs.length with g | g
            · exact g
            · rw [List.getElem?_eq_none g] at hj; cases hj
          have e : vs.toArray.getD (0 + j) default = vs.getD j default := by
            rw [Nat.zero_add]; simp [Array.getD, List.getD, hjl]
          rw [e]; exact this
      obtain ⟨xs, hax, hxs⟩ := arr hb.1.2 hx
      obtain ⟨ys, hay, hys⟩ := arr hb.2 hy
      have hstruct : ∀ fs, P.underlying t = some (.struct fs) → (Op.equalIn 10000 t (.agg xs) (.agg ys)).run P w = .ok r w := fun fs hfs =>
        (eqT_sound E.F 20 t ts.eq heq).2 fs hfs as bs xs ys r hb.1.2 hb.2 hxs hys hr 10000 (by omega)
      have hs : ∃ fs, P.underlying t = some (.struct fs) := by
        obtain ⟨_, ⟨i, d, z, hi, hu, hsz, hby, hk, hz, hzl, hzs, hzr⟩⟩ := hTt
        cases hkk : ts.kind with
        | struct l => rw [hkk] at hk; obtain ⟨fields, rfl, _⟩ := hk; exact ⟨fields, hu⟩
        | array m e => rw [hkk] at hk; cases hk; simp [eqT, hu] at heq
        | _ => simp [TS.isAgg, hkk] at hagg
      obtain ⟨fs, hfs⟩ := hs
      have hrun := hstruct fs hfs
      cases op with
      | eql =>
        refine ⟨cond_setd hf hc, Done.value h hf (Rep.mk_bool _) ?_⟩
        simp [execOp, ho, hax, hay, run_eqGuard_agg w .eql t x y xs ys hgd, run_eql_struct, hrun]
      | neq =>
        refine ⟨cond_setd hf hc, Done.value h hf (Rep.mk_bool _) ?_⟩
        simp [execOp, ho, hax, hay, run_eqGuard_agg w .neq t x y xs ys hgd, run_neq_struct, hrun]
      | _ => cases hf
  · cases hf

theorem opUn_sound (h : Models E0 H0 w0 E s a w) {op : UnOp} {t : TypeId} {x : Operand} (ho : o.op = .unOp op t x)
    (hf : opUn s o.dst op (s.ev x) = some s') (hc : s'.cond) : s.cond ∧ Done P o E0 H0 w0 s' a w := by
  have hx := h.ev x
  unfold opUn at hf
  split at hf
  · rename_i b hv
    rw [hv] at hx
    exact ⟨cond_setd hf hc, Done.value h hf (Rep.mk_bool _) (by simp [execOp, ho, hx.bool', Op.unary])⟩
  · rename_i k n hv
    rw [hv] at hx
    exact ⟨cond_setd hf hc, Done.value h hf (Rep.mk_int _ _) (by simp [execOp, ho, hx.int', Op.unary, Op.intArith])⟩
  · cases hf

theorem opConvert_sound (hT : TTOk P T) (h : Models E0 H0 w0 E s a w) {src dst : TypeId} {x : Operand} (ho : o.op = .convert src dst x)
    (hf : opConvert T s o.dst src dst (s.ev x) = some s') (hc : s'.cond) : s.cond ∧ Done P o E0 H0 w0 s' a w := by
  have hx := h.ev x
  simp only [opConvert, Option.bind_eq_some_iff] at hf
  obtain ⟨ts, hts, td, htd, hf⟩ := hf
  obtain ⟨_, ⟨i, d, z, hi, hu, hsz, hby, hk, _⟩⟩ := hT src ts hts
  obtain ⟨_, ⟨i', d', z', hi', hu', hsz', hby', hk', _⟩⟩ := hT dst td htd
  split at hf
  · rename_i k k' n hkk hv
    rw [hkk] at hk'; cases hk'
    rw [hv] at hx
    refine ⟨cond_setd hf hc, Done.value h hf (Rep.mk_int _ _) ?_⟩
    simp [execOp, ho, hx.int', convert, run_underlying hu, run_underlying hu', Conv.intToInt]
  · rename_i b hkk hv
    rw [hkk] at hk'; cases hk'
    rw [hv] at hx
    refine ⟨cond_setd hf hc, Done.value h hf (Rep.mk_str _) ?_⟩
    simp [execOp, ho, hx.str', convert, run_underlying hu, run_underlying hu']
  · cases hf

theorem opExtract_sound (h : Models E0 H0 w0 E s a w) {x : Operand} {j : Nat} (ho : o.op = .extract x j)
    (hf : opExtract s o.dst (s.ev x) j = some s') (hc : s'.cond) : s.cond ∧ Done P o E0 H0 w0 s' a w := by
  have hx := h.ev x
  unfold opExtract at hf
  split at hf
  · rename_i vs hv
    rw [hv] at hx
    simp only [Option.bind_eq_some_iff] at hf
    obtain ⟨v, hvj, hf⟩ := hf
    refine ⟨cond_setd hf hc, ?_⟩
    generalize hax : a.eval x = ax at hx
    cases hx with
    | fz _ _ hx => cases hx
    | tup _ xs hn hr =>
      have hj : j < xs.length := by
        rw [hn]
        rcases Nat.lt_or_ge j vs.length with g | g
        · exact g
        · rw [List.getElem?_eq_none g] at hvj; cases hvj
      have := hr j v hvj
      refine Done.value h hf (this) ?_
      simp [execOp, ho, hax, Instr.extract, hj, List.getD]
  · cases hf

theorem opMakeInterface_sound (hT : TTOk P T) (h : Models E0 H0 w0 E s a w) {t : TypeId} {x : Operand} (ho : o.op = .makeInterface t x)
    (hf : opMakeInterface T s o.dst t (s.ev x) = some s') (hc : s'.cond) : s.cond ∧ Done P o E0 H0 w0 s' a w := by
  have hx := h.ev x
  simp only [opMakeInterface, Option.bind_eq_some_iff] at hf
  obtain ⟨ts, hts, hf⟩ := hf
  obtain ⟨_, ⟨i, d, z, hi, hu, hsz, hby, hk, _⟩⟩ := hT t ts hts
  cases hfr : (isFree (s.ev x) && ts.kind.solid) with
  | false => rw [hfr] at hf; cases hf
  | true =>
    rw [hfr, cond_true] at hf
    rw [Bool.and_eq_true] at hfr
    refine ⟨cond_setd hf hc, Done.value h hf ((.fz _ _ (.iface t _ _ (hx.toF hfr.1)))) ?_⟩
    simp only [execOp, ho, Instr.makeInterface, Sem.run_bind, run_underlying hu, Result.andThen]
    cases hkk : ts.kind with
    | plain => rw [hkk] at hfr; cases hfr.2
    | struct fs => rw [hkk] at hk; obtain ⟨f, rfl, _⟩ := hk; rfl
    | _ => rw [hkk] at hk; cases hk; rfl

end
end Go.Av

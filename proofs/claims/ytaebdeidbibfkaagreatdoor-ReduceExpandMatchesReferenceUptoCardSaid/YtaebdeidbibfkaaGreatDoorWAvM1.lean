/- The Av framework: operations on values. No law is proved here. -/
import Derived.Test.YtaebdeidbibfkaaGreatDoorWAvM0
import Derived.Laws.Strings
import Derived.Laws.StructEq
import Derived.Laws.Tables
set_option linter.unusedSimpArgs false
set_option linter.unusedVariables false
set_option linter.unusedSectionVars false
namespace Go.Av
variable [Drawn]

section
variable {E0 : Env} {H0 : List AObj} {w0 : World} {E : Env} {s s' : St} {a : Act} {w : World} {P : Program} {T : TT} {o : Oper}

theorem ofNat_toNat {i : Int} {n : Nat} (h0 : 0 ≤ i) (h1 : i < (n : Int)) : i.toNat < n := by omega

theorem opIndexAddr_sound (hT : TTOk P T) (h : Models E0 H0 w0 E s a w) {t : TypeId} {x y : Operand} (ho : o.op = .indexAddr t x y)
    (hf : opIndexAddr T s o.dst t (s.ev x) (s.ev y) = some s') (hc : s'.cond) : s.cond ∧ Done P o E0 H0 w0 s' a w := by
  simp only [opIndexAddr, Option.bind_eq_some_iff] at hf
  obtain ⟨ts, hts, hf⟩ := hf
  obtain ⟨_, ⟨i, d, z, hi, hu, hsz, hby, hk, _⟩⟩ := hT t ts hts
  have hy := h.ev y
  have hx := h.ev x
  cases hvy : s.ev y with
  | int k n =>
    rw [hvy] at hf hy
    have hay := hy.int'
    cases hkk : ts.kind with
    | slice e =>
      rw [hkk] at hk hf
      cases hk
      simp only [Option.bind_eq_some_iff] at hf
      obtain ⟨te, hte, hf⟩ := hf
      obtain ⟨_, ⟨ie, _, _, hie, _, hies, _⟩⟩ := hT e te hte
      cases hvx : s.ev x with
      | list len row =>
        rw [hvx] at hf hx
        obtain ⟨hc1, ⟨hb1, hb2⟩, hlen⟩ := need_setd hf hc
        refine ⟨hc1, ?_⟩
        have hlt := ofNat_toNat hb1 hb2
        generalize hax : a.eval x = ax at hx
        cases hx with
        | fz _ _ hx =>
          cases hx with
          | empty _ _ _ => omega
          | list _ _ b off cap sz vs hF hcap hsz' hcell hfr hr =>
            have hsz2 : sz = te.size := (hsz' _ hlt).symm.trans hlen
            subst hsz2
            refine Done.value (h.cond _) hf ((.fz _ _ (.fptr _ b (off + n.toNat * te.size) (fun j => vs n.toNat j) hF ?_ ?_ ?_))) ?_
            · intro j c hj; rw [Nat.add_assoc]; exact hcell _ j c hlt hj
            · intro j c hj; exact hfr _ j c hlt hj
            · intro j c hj; exact hr _ j c hlt hj
            · simp [execOp, ho, hax, hay, Instr.indexAt, asIntOf, run_underlying hu, hb1, hb2, sizeOf, typeInfo, hie, hies, addr_add]
      | sl id b len =>
        rw [hvx] at hf hx
        simp only at hf
        cases hid : s.hp[id]? with
        | none => rw [hid] at hf; cases hf
        | some ob =>
          cases ob with
          | arr sz nn row =>
            rw [hid] at hf
            simp only at hf
            cases hbq : Nat.beq sz te.size with
            | false => rw [hbq] at hf; cases hf
            | true =>
              rw [hbq, cond_true] at hf
              have hsz2 := Nat.eq_of_beq_eq_true hbq
              obtain ⟨hc1, hb1, hb2⟩ := need_setd hf hc
              refine ⟨hc1, ?_⟩
              obtain ⟨g1, g2, g3, g4, g5, g6⟩ := h.heap.obj id _ hid
              generalize hax : a.eval x = ax at hx
              cases hx with
              | fz _ _ hx => cases hx
              | sl _ _ _ av hi' hle ha =>
                cases hρ : E.ρ id with
                | none => rw [hρ] at g6; omega
                | some blk =>
                  have ha' := ha (by omega)
                  rw [ha'] at hax
                  refine Done.value (h.cond _) hf ((.hptr id (b + n.toNat) 0 blk hi' hρ)) ?_
                  rw [hρ] at hax
                  have e : (E.ω id + b) * E.σ id + n.toNat * te.size = (E.ω id + (b + n.toNat)) * E.σ id + 0 := by
                    rw [g1, hsz2, Nat.add_zero, ← Nat.add_mul, Nat.add_assoc]
                  simp [execOp, ho, hax, hay, Instr.indexAt, asIntOf, run_underlying hu, hb1, hb2, sizeOf, typeInfo, hie, hies, addr_add, e]
          | _ => rw [hid] at hf; cases hf
      | _ => rw [hvx] at hf; cases hf
    | array len e =>
      rw [hkk] at hk hf
      cases hk
      cases n with
      | negSucc n => cases hf
      | ofNat n =>
        simp only [Option.bind_eq_some_iff] at hf
        obtain ⟨te, hte, hf⟩ := hf
        obtain ⟨_, ⟨ie, _, _, hie, _, hies, _⟩⟩ := hT e te hte
        cases hlt : Nat.blt n len with
        | false => rw [hlt] at hf; cases hf
        | true =>
          rw [hlt, cond_true] at hf
          have hlt' : n < len := by
            have : n + 1 ≤ len := by simpa [Nat.blt] using hlt
            omega
          have run : ∀ b off, a.eval x = .pointer (some ⟨b, off, none⟩) → (execOp a.eval o).run P w = .ok (.value (.pointer (some ⟨b, off + n * te.size, none⟩))) w := by
            intro b off hax
            simp [execOp, ho, hax, hay, Instr.indexAt, Instr.sureAddr, asIntOf, run_underlying hu, hlt', sizeOf, typeInfo, hie, hies, addr_add]
          cases hvx : s.ev x with
          | hptr id idx off =>
            rw [hvx] at hf hx
            refine ⟨cond_setd hf hc, ?_⟩
            generalize hax : a.eval x = ax at hx
            cases hx with
            | fz _ _ hx => cases hx
            | hptr _ _ _ b hi' hb =>
              exact Done.value h hf (.hptr id idx (off + n * te.size) b hi' hb) (by rw [run b _ hax, Nat.add_assoc])
          | fptr cs =>
            rw [hvx] at hf hx
            refine ⟨cond_setd hf hc, ?_⟩
            generalize hax : a.eval x = ax at hx
            cases hx with
            | fz _ _ hx =>
              cases hx with
              | fptr _ b off vs hF hcell hfr hr =>
                refine Done.value h hf ((.fz _ _ (.fptr _ b (off + n * te.size) (fun j => vs (n * te.size + j)) hF ?_ ?_ ?_))) (run b off hax)
                · intro j c hj; rw [List.getElem?_drop] at hj; rw [Nat.add_assoc]; exact hcell _ c hj
                · intro j c hj; rw [List.getElem?_drop] at hj; exact hfr _ c hj
                · intro j c hj; rw [List.getElem?_drop] at hj; exact hr _ c hj
          | _ => rw [hvx] at hf; cases hf
    | _ => rw [hkk] at hf; cases hf
  | _ => rw [hvy] at hf; cases hkk : ts.kind <;> rw [hkk] at hf <;> cases hf

theorem opIndex_sound (hT : TTOk P T) (h : Models E0 H0 w0 E s a w) {t : TypeId} {x y : Operand} (ho : o.op = .index t x y)
    (hf : opIndex T s o.dst t (s.ev x) (s.ev y) = some s') (hc : s'.cond) : s.cond ∧ Done P o E0 H0 w0 s' a w := by
  simp only [opIndex, Option.bind_eq_some_iff] at hf
  obtain ⟨ts, hts, hf⟩ := hf
  obtain ⟨_, ⟨i, d, z, hi, hu, hsz, hby, hk, _⟩⟩ := hT t ts hts
  have hy := h.ev y
  have hx := h.ev x
  cases hkk : ts.kind with
  | array len e =>
    rw [hkk] at hk hf
    cases hk
    cases hvx : s.ev x with
    | agg cs =>
      cases hvy : s.ev y with
      | int k n =>
        rw [hvx] at hf hx
        rw [hvy] at hf hy
        have hay := hy.int'
        simp only [Option.bind_eq_some_iff] at hf
        obtain ⟨te, hte, hf⟩ := hf
        obtain ⟨_, ⟨ie, _, _, hie, _, hies, _⟩⟩ := hT e te hte
        generalize hax : a.eval x = ax at hx
        cases hx with
        | fz _ _ hx => cases hx
        | agg _ vs hn hr =>
          cases hagg : te.isAgg with
          | true =>
            rw [hagg, cond_true] at hf
            obtain ⟨hc1, ⟨hb1, hb2⟩, hlen⟩ := need_setd hf hc
            refine ⟨hc1, ?_⟩
            have hlt := ofNat_toNat hb1 hb2
            have hle : n.toNat * te.size + te.size ≤ cs.length := by
              have : (n.toNat + 1) * te.size ≤ len * te.size := Nat.mul_le_mul_right _ hlt
              rw [Nat.add_mul, Nat.one_mul] at this
              omega
            have hpart := part_run (w := w) (hT e te hte) vs.toArray (n.toNat * te.size) (fun hh => by rw [hagg] at hh; cases hh)
            rw [hagg] at hpart
            simp only [if_true] at hpart
            refine Done.value (x := .agg (vs.toArray.extract (n.toNat * te.size) (n.toNat * te.size + te.size))) (h.cond _) hf (?_) ?_
            · have e : (vs.toArray.extract (n.toNat * te.size) (n.toNat * te.size + te.size)) = ((vs.drop (n.toNat * te.size)).take te.size).toArray := by
                simp [List.extract_toArray, List.extract_eq_take_drop]
              rw [e]
              refine Rep.agg _ _ (by simp; omega) fun j c hj => ?_
              have hj2 : j < te.size ∧ cs[n.toNat * te.size + j]? = some c := by
                rw [List.getElem?_take] at hj
                split at hj
                · rw [List.getElem?_drop] at hj; exact ⟨by assumption, hj⟩
                · cases hj
              have := hr _ c hj2.2
              simp only [List.getD, List.getElem?_take, hj2.1, if_true, List.getElem?_drop] at this ⊢
              exact this
            · simp [execOp, ho, hax, hay, Instr.index, asIntOf, run_underlying hu, hb1, hb2, sizeOf, typeInfo, hie, hies, hpart]
          | false =>
            rw [hagg, cond_false] at hf
            cases hq : Nat.beq te.size 1 with
            | false => rw [hq] at hf; cases hf
            | true =>
              rw [hq, cond_true] at hf
              have h1 := Nat.eq_of_beq_eq_true hq
              obtain ⟨hc1, ⟨hb1, hb2⟩, hlen⟩ := need_setd hf hc
              refine ⟨hc1, ?_⟩
              have hlt := ofNat_toNat hb1 hb2
              have hpart := part_run (w := w) (hT e te hte) vs.toArray (n.toNat * te.size) (fun _ => by rw [h1]; simp; omega)
              rw [hagg] at hpart
              simp only [Bool.false_eq_true, if_false] at hpart
              refine Done.value (x := vs.toArray.getD (n.toNat * te.size) default) (h.cond _) hf (?_) ?_
              · have := hr n.toNat cs[n.toNat] (List.getElem?_eq_getElem (by omega))
                have e2 : cs.getD n.toNat .undef = cs[n.toNat] := by simp [List.getD, show n.toNat < cs.length by omega]
                have e3 : vs.toArray.getD (n.toNat * te.size) default = vs.getD n.toNat default := by
                  rw [h1]; simp [Array.getD, List.getD, show n.toNat < vs.length by omega]
                rw [e2, e3]; exact this
              · simp only [execOp, ho, hax, hay, Instr.index, asIntOf, Sem.run_bind, Sem.run_pure, Result.andThen, run_underlying hu, hb1, hb2, and_self, if_true, sizeOf, typeInfo, run_program, hie, hies, hpart]
      | _ => rw [hvx, hvy] at hf; cases hf
    | _ => rw [hvx] at hf; cases hf
  | str =>
    rw [hkk] at hk hf
    cases hk
    cases hvx : s.ev x with
    | str b =>
      cases hvy : s.ev y with
      | int k n =>
        rw [hvx] at hf hx
        rw [hvy] at hf hy
        obtain ⟨hc1, hb1, hb2⟩ := need_setd hf hc
        refine ⟨hc1, Done.value (h.cond _) hf (Rep.mk_int _ _) ?_⟩
        have hlt := ofNat_toNat hb1 hb2
        have hget : b[n.toNat]? = some (b.data.toList.getD n.toNat 0) := by
          have hl : n.toNat < b.data.toList.length := by simpa using hlt
          rw [List.getD, List.getElem?_eq_getElem hl]
          rw [getElem?_pos b n.toNat hlt]
          rfl
        simp [execOp, ho, hx.str', hy.int', Instr.index, asIntOf, run_underlying hu, hb1, hget]
      | _ => rw [hvx, hvy] at hf; cases hf
    | _ => rw [hvx] at hf; cases hf
  | _ => rw [hkk] at hf; cases hf

theorem opMax_sound (h : Models E0 H0 w0 E s a w) {x y : Operand} {c : Call} (ho : o.op = .call c)
    (h1 : c.callee = .builtin .max) (h2 : c.args.toList = [x, y])
    (hf : opMax s o.dst (s.ev x) (s.ev y) = some s') (hc : s'.cond) : s.cond ∧ Done P o E0 H0 w0 s' a w := by
  have e2 : c.args = #[x, y] := by rw [← Array.toArray_toList (xs := c.args), h2]
  have hx := h.ev x
  have hy := h.ev y
  unfold opMax at hf
  split at hf
  · rename_i k n k' m hvx hvy
    rw [hvx] at hx; rw [hvy] at hy
    refine ⟨cond_setd hf hc, Done.value h hf (Rep.mk_int _ _) ?_⟩
    simp [execOp, ho, resolve, h1, e2, hx.int', hy.int', invoke, builtin, Builtin.max_, Builtin.max2, imax]
  · cases hf

theorem opMin_sound (h : Models E0 H0 w0 E s a w) {x y : Operand} {c : Call} (ho : o.op = .call c)
    (h1 : c.callee = .builtin .min) (h2 : c.args.toList = [x, y])
    (hf : opMin s o.dst (s.ev x) (s.ev y) = some s') (hc : s'.cond) : s.cond ∧ Done P o E0 H0 w0 s' a w := by
  have e2 : c.args = #[x, y] := by rw [← Array.toArray_toList (xs := c.args), h2]
  have hx := h.ev x
  have hy := h.ev y
  unfold opMin at hf
  split at hf
  · rename_i k n k' m hvx hvy
    rw [hvx] at hx; rw [hvy] at hy
    refine ⟨cond_setd hf hc, Done.value h hf (Rep.mk_int _ _) ?_⟩
    simp [execOp, ho, resolve, h1, e2, hx.int', hy.int', invoke, builtin, Builtin.min_, Builtin.min2, imin]
  · cases hf

theorem opLen_sound (hT : TTOk P T) (h : Models E0 H0 w0 E s a w) {t : TypeId} {x : Operand} {c : Call} (ho : o.op = .call c)
    (h1 : c.callee = .builtin .len) (h2 : c.args.toList = [x]) (h3 : c.argTypes.toList = [t])
    (hf : opLen T s o.dst t (s.ev x) = some s') (hc : s'.cond) : s.cond ∧ Done P o E0 H0 w0 s' a w := by
  have e2 : c.args = #[x] := by rw [← Array.toArray_toList (xs := c.args), h2]
  have e3 : c.argTypes = #[t] := by rw [← Array.toArray_toList (xs := c.argTypes), h3]
  simp only [opLen, Option.bind_eq_some_iff] at hf
  obtain ⟨ts, hts, hf⟩ := hf
  obtain ⟨_, ⟨i, d, z, hi, hu, hsz, hby, hk, _⟩⟩ := hT t ts hts
  have hx := h.ev x
  cases hkk : ts.kind with
  | slice e =>
    rw [hkk] at hk hf
    cases hk
    cases hvx : s.ev x with
    | list n row =>
      rw [hvx] at hf hx
      refine ⟨cond_setd hf hc, Done.value h hf (Rep.mk_int _ _) ?_⟩
      generalize hax : a.eval x = ax at hx
      cases hx with
      | fz _ _ hx => cases hx <;> simp [execOp, ho, resolve, h1, e2, e3, hax, invoke, builtin, Builtin.len_, run_underlying hu, goInt]
    | sl id b n =>
      rw [hvx] at hf hx
      refine ⟨cond_setd hf hc, Done.value h hf (Rep.mk_int _ _) ?_⟩
      generalize hax : a.eval x = ax at hx
      cases hx with
      | fz _ _ hx => cases hx
      | sl _ _ _ _ _ _ _ => simp [execOp, ho, resolve, h1, e2, e3, hax, invoke, builtin, Builtin.len_, run_underlying hu, goInt]
    | nilsl =>
      rw [hvx] at hf hx
      refine ⟨cond_setd hf hc, Done.value h hf (Rep.mk_int _ _) ?_⟩
      generalize hax : a.eval x = ax at hx
      cases hx with
      | fz _ _ hx => cases hx; simp [execOp, ho, resolve, h1, e2, e3, hax, invoke, builtin, Builtin.len_, run_underlying hu, goInt]
    | zsl =>
      rw [hvx] at hf hx
      refine ⟨cond_setd hf hc, Done.value h hf (Rep.mk_int _ _) ?_⟩
      generalize hax : a.eval x = ax at hx
      cases hx with
      | fz _ _ hx => cases hx; simp [execOp, ho, resolve, h1, e2, e3, hax, invoke, builtin, Builtin.len_, run_underlying hu, goInt]
    | _ => rw [hvx] at hf; cases hf
  | str =>
    rw [hkk] at hk hf
    cases hk
    cases hvx : s.ev x with
    | str b =>
      rw [hvx] at hf hx
      refine ⟨cond_setd hf hc, Done.value h hf (Rep.mk_int _ _) ?_⟩
      simp [execOp, ho, resolve, h1, e2, e3, hx.str', invoke, builtin, Builtin.len_, run_underlying hu, goInt]
    | _ => rw [hvx] at hf; cases hf
  | array n e =>
    rw [hkk] at hk hf
    cases hk
    refine ⟨cond_setd hf hc, Done.value h hf (Rep.mk_int _ _) ?_⟩
    simp [execOp, ho, resolve, h1, e2, e3, invoke, builtin, Builtin.len_, run_underlying hu, goInt]
  | map k e =>
    rw [hkk] at hk hf
    cases hk
    cases hvx : s.ev x with
    | nilmap =>
      rw [hvx] at hf hx
      refine ⟨cond_setd hf hc, Done.value h hf (Rep.mk_int _ _) ?_⟩
      generalize hax : a.eval x = ax at hx
      cases hx with
      | fz _ _ hx => cases hx; simp [execOp, ho, resolve, h1, e2, e3, hax, invoke, builtin, Builtin.len_, run_underlying hu, goInt]
    | mp id =>
      rw [hvx] at hf hx
      simp only at hf
      cases hid : s.hp[id]? with
      | none => rw [hid] at hf; cases hf
      | some ob =>
        cases ob with
        | map es =>
          rw [hid] at hf
          refine ⟨cond_setd hf hc, Done.value h hf (Rep.mk_int _ _) ?_⟩
          obtain ⟨b, mes, clock, g0, g1, g2, g3, g4⟩ := h.heap.obj id _ hid
          generalize hax : a.eval x = ax at hx
          cases hx with
          | fz _ _ hx => cases hx
          | mp _ b' _ hb' =>
            rw [g0] at hb'; cases hb'
            simp [execOp, ho, resolve, h1, e2, e3, hax, invoke, builtin, Builtin.len_, run_underlying hu, goInt, getObj, Sem.run, g1, g2]
        | _ => rw [hid] at hf; cases hf
    | _ => rw [hvx] at hf; cases hf
  | _ => rw [hkk] at hf; cases hf

theorem equal_bool {t : TypeId} (hu : P.underlying t = some .bool) (a b : Bool) : (Op.equal t (.bool a) (.bool b)).run P w = .ok (a == b) w := by
  have : ∀ d, (Op.equalIn (d + 1) t (.bool a) (.bool b)).run P w = .ok (a == b) w := by intro d; simp [Op.equalIn, run_underlying hu]
  exact this 9999

theorem run_eql_bool {t : TypeId} (hu : P.underlying t = some .bool) (a b : Bool) : (binOp .eql t (.bool a) (.bool b)).run P w = .ok (.bool (a == b)) w := by
  simp only [binOp, Sem.run_bind, equal_bool hu, Result.andThen, Sem.run_pure]

theorem run_neq_bool {t : TypeId} (hu : P.underlying t = some .bool) (a b : Bool) : (binOp .neq t (.bool a) (.bool b)).run P w = .ok (.bool (!(a == b))) w := by
  simp only [binOp, Sem.run_bind, equal_bool hu, Result.andThen, Sem.run_pure]

theorem str_beq (a b : ByteArray) : (a.toList == b.toList) = decide (a = b) := by
  rw [ByteArray.toList_eq, ByteArray.toList_eq]
  by_cases h : a = b
  · subst h; simp
  · rw [decide_eq_false h, beq_eq_false_iff_ne]
    exact fun e => h (by cases a; cases b; congr 1; exact Array.ext' e)

/-! ### '==' of structs -/

theorem eqC_append : ∀ {as bs : List AV}, as.length = bs.length → ∀ (as' bs' : List AV), eqC (as ++ as') (bs ++ bs') = (eqC as bs).bind fun r => (eqC as' bs').map fun q => r && q
  | [], [], _, as', bs' => by simp [eqC]
  | a :: as, b :: bs, h, as', bs' => by
    have ih := eqC_append (as := as) (bs := bs) (by simpa using h) as' bs'
    simp only [List.cons_append, eqC, ih]
    cases eqA a b with
    | none => rfl
    | some r =>
      cases eqC as bs with
      | none => rfl
      | some q =>
        cases eqC as' bs' with
        | none => rfl
        | some q' => simp [Bool.and_assoc]

theorem eqC_split {as bs : List AV} {k : Nat} {r : Bool} (hk : k ≤ as.length) (hl : as.length = bs.length) (h : eqC as bs = some r) : ∃ r1 r2, eqC (as.take k) (bs.take k) = some r1 ∧ eqC (as.drop k) (bs.drop k) = some r2 ∧ r = (r1 && r2) := by
  have e := eqC_append (as := as.take k) (bs := bs.take k) (by simp; omega) (as.drop k) (bs.drop k)
  rw [List.take_append_drop, List.take_append_drop, h] at e
  cases h1 : eqC (as.take k) (bs.take k) with
  | none => rw [h1] at e; cases e
  | some r1 =>
    cases h2 : eqC (as.drop k) (bs.drop k) with
    | none => rw [h1, h2] at e; cases e
    | some r2 => rw [h1, h2] at e; exact ⟨r1, r2, rfl, rfl, Option.some.inj e⟩

def AtRep (F : Nat → Prop) (w : World) (cs : List AV) (xs : Array Value) (off : Nat) : Prop := off + cs.length ≤ xs.size ∧ ∀ (j : Nat) c, cs[j]? = some c → RepF F w c (xs.getD (off + j) default)

theorem AtRep.take {F : Nat → Prop} {cs : List AV} {xs : Array Value} {off : Nat} (h : AtRep F w cs xs off) (k : Nat) : AtRep F w (cs.take k) xs off :=
  ⟨by have := h.1; simp; omega, fun j c hj => h.2 j c (by rw [List.getElem?_take] at hj; split at hj; exact hj; cases hj)⟩
theorem AtRep.drop {F : Nat → Prop} {cs : List AV} {xs : Array Value} {off : Nat} (h : AtRep F w cs xs off) {k : Nat} (hk : k ≤ cs.length) : AtRep F w (cs.drop k) xs (off + k) :=
  ⟨by have := h.1; simp; omega, fun j c hj => by rw [Nat.add_assoc]; exact h.2 (k + j) c (by rw [List.getElem?_drop] at hj; exact hj)⟩
theorem AtRep.extract {F : Nat → Prop} {cs : List AV} {xs : Array Value} {off : Nat} (h : AtRep F w cs xs off) : AtRep F w cs (xs.extract off (off + cs.length)) 0 := by
  have h1 := h.1
  refine ⟨by simp; omega, fun j c hj => ?_⟩
  have hjl : j < cs.length := by
    rcases Nat.lt_or_ge j cs.length with g | g
    · exact g
    · rw [List.getElem?_eq_none g] at hj; cases hj
  have := h.2 j c hj
  have hx : off + j < xs.size := by omega
  have e1 : xs.getD (off + j) default = xs[off + j] := by simp [Array.getD, hx]
  have hq : j < (xs.extract off (off + cs.length)).size := by simp; omega
  have e2 : (xs.extract off (off + cs.length)).getD (0 + j) default = xs[off + j] := by
    have h3 : j < min (off + cs.length) xs.size - off := by simpa using hq
    rw [Nat.zero_add]; simp [Array.getD, h3]
  rw [e2]; rw [e1] at this; exact this

theorem cks_get : ∀ {ks : List CK} {cs : List AV}, cksB ks cs = true → cs.length = ks.length
  | [], [], _ => rfl
  | k :: ks, c :: cs, h => by
    simp only [cksB, Bool.and_eq_true] at h
    simp [cks_get h.2]

theorem cks_take : ∀ {ks ks' : List CK} {cs : List AV}, cksB (ks ++ ks') cs = true → cksB ks (cs.take ks.length) = true ∧ cksB ks' (cs.drop ks.length) = true
  | [], ks', cs, h => by simpa [cksB] using h
  | k :: ks, ks', [], h => by simp [cksB] at h
  | k :: ks, ks', c :: cs, h => by
    simp only [List.cons_append, cksB, Bool.and_eq_true] at h
    obtain ⟨h1, h2⟩ := cks_take h.2
    simp [cksB, h.1, h1, h2]

def ckT (P : Program) (t : TypeId) : CK → Prop
  | .b => P.underlying t = some .bool
  | .s => P.underlying t = some .string
  | .i k => P.underlying t = some (.int k)

theorem equal_cell {F : Nat → Prop} {a b : AV} {x y : Value} {r : Bool} {t : TypeId} {k : CK} (ha : RepF F w a x) (hb : RepF F w b y) (hka : ckB k a = true) (hkb : ckB k b = true) (he : eqA a b = some r) (d : Nat)
    (ht : ckT P t k) : (Op.equalIn (d + 1) t x y).run P w = .ok r w := by
  cases k with
  | b =>
    cases a <;> simp [ckB] at hka
    cases b <;> simp [ckB] at hkb
    cases ha; cases hb
    simp only [eqA, Option.some.injEq] at he
    subst he
    exact run_equalIn_bool w d t _ _ ht
  | s =>
    cases a <;> simp [ckB] at hka
    cases b <;> simp [ckB] at hkb
    cases ha; cases hb
    simp only [eqA, Option.some.injEq] at he
    subst he
    rw [run_equalIn_string w d t _ _ ht, str_beq]
  | i k =>
    cases a <;> simp [ckB] at hka
    cases b <;> simp [ckB] at hkb
    cases ha; cases hb
    subst hka; subst hkb
    simp only [eqA, decide_true, cond_true, Option.some.injEq] at he
    subst he
    exact run_equalIn_int w d t _ _ _ _ ht

def EqSound (P : Program) (w : World) (F : Nat → Prop) (n : Nat) (t : TypeId) (ks : List CK) : Prop :=
    (∀ (as bs : List AV) (xs ys : Array Value) (off : Nat) (r : Bool), cksB ks as = true → cksB ks bs = true → AtRep F w as xs off → AtRep F w bs ys off → eqC as bs = some r →
      ∃ a b, (part t xs off).run P w = .ok a w ∧ (part t ys off).run P w = .ok b w ∧ ∀ d, n ≤ d → (Op.equalIn d t a b).run P w = .ok r w) ∧
    (∀ fs, P.underlying t = some (.struct fs) → ∀ (as bs : List AV) (xs ys : Array Value) (r : Bool), cksB ks as = true → cksB ks bs = true → AtRep F w as xs 0 → AtRep F w bs ys 0 → eqC as bs = some r →
      ∀ d, n ≤ d → (Op.equalIn d t (.agg xs) (.agg ys)).run P w = .ok r w)

theorem eqT_sound (F : Nat → Prop) : ∀ (n : Nat) (t : TypeId) (ks : List CK), eqT P n t = some ks → EqSound P w F n t ks
  | 0, t, ks, h => by simp [eqT] at h
  | n + 1, t, ks, h => by
    have ih := eqT_sound F n
    -- a scalar
    have scal : ∀ (k : CK), ckT P t k → (∀ fs, P.underlying t ≠ some (.struct fs)) → (isAgg t).run P w = .ok false w → eqOne P t k = some ks → EqSound P w F (n + 1) t ks := by
      intro k hk hns hagg h1
      refine ⟨?_, fun fs hfs => absurd hfs (hns fs)⟩
      simp only [eqOne, Option.bind_eq_some_iff] at h1
      obtain ⟨i, hi, h1⟩ := h1
      cases hb : Nat.beq i.size 1 with
      | false => rw [hb] at h1; cases h1
      | true =>
        rw [hb, cond_true, Option.some.injEq] at h1
        subst h1
        intro as bs xs ys off r ha hb2 hra hrb he
        have hl1 := cks_get ha
        have hl2 := cks_get hb2
        match as, bs, ha, hb2, hl1, hl2, hra, hrb, he with
        | [a], [b], ha, hb2, _, _, hra, hrb, he =>
          simp only [cksB, Bool.and_true] at ha hb2
          have hra0 := hra.2 0 a rfl
          have hrb0 := hrb.2 0 b rfl
          rw [Nat.add_zero] at hra0 hrb0
          have hx : off < xs.size := by have := hra.1; simp at this; omega
          have hy : off < ys.size := by have := hrb.1; simp at this; omega
          refine ⟨xs.getD off default, ys.getD off default, ?_, ?_, fun d hd => ?_⟩
          · simp [part, hagg, hx, Array.getD]
          · simp [part, hagg, hy, Array.getD]
          · obtain ⟨d', rfl⟩ : ∃ d', d = d' + 1 := ⟨d - 1, by omega⟩
            have he' : eqA a b = some r := by
              simp only [eqC, Option.map_some, Bool.and_true] at he
              cases h0 : eqA a b with
              | none => rw [h0] at he; cases he
              | some q => rw [h0] at he; simpa using he
            exact equal_cell hra0 hrb0 ha hb2 he' d' hk
    simp only [eqT] at h
    split at h
    · rename_i hu; exact scal .b hu (fun fs => by rw [hu]; simp) (by simp [isAgg, run_underlying hu]) h
    · rename_i hu; exact scal .s hu (fun fs => by rw [hu]; simp) (by simp [isAgg, run_underlying hu]) h
    · rename_i k hu; exact scal (.i k) hu (fun fs => by rw [hu]; simp) (by simp [isAgg, run_underlying hu]) h
    · rename_i fs hu
      cases hst : P.stoodInHeld t with
      | true => rw [hst] at h; cases h
      | false =>
        rw [hst, cond_false] at h
        simp only [Option.bind_eq_some_iff] at h
        obtain ⟨l, hl, i, hi, h⟩ := h
        cases hb : Nat.beq i.size l.length with
        | false => rw [hb] at h; cases h
        | true =>
          rw [hb, cond_true, Option.some.injEq] at h
          subst h
          have hsz := Nat.eq_of_beq_eq_true hb
          -- the fields
          have hfields : ∀ (fl : List Field) (off : Nat) (ks : List CK), eqF P (eqT P n) off fl = some ks → ∀ (as bs : List AV) (xs ys : Array Value) (r : Bool), cksB ks as = true → cksB ks bs = true → AtRep F w as xs off → AtRep F w bs ys off → eqC as bs = some r →
              ∀ d, n ≤ d → (Op.eqFields d xs ys fl).run P w = .ok r w := by
            intro fl
            induction fl with
            | nil =>
              intro off ks hk as bs xs ys r ha hb2 _ _ he d _
              simp only [eqF, Option.some.injEq] at hk; subst hk
              match as, bs, ha, hb2 with
              | [], [], _, _ => simp only [eqC, Option.some.injEq] at he; subst he; simp [Op.eqFields]
            | cons f fl ihf =>
              intro off ks hk as bs xs ys r ha hb2 hra hrb he d hd
              simp only [eqF] at hk
              cases hq : ((!(f.name == "_")) && Nat.beq f.offset off) with
              | false => rw [hq] at hk; cases hk
              | true =>
                rw [hq, cond_true] at hk
                rw [Bool.and_eq_true] at hq
                have hoff := Nat.eq_of_beq_eq_true hq.2
                have hname : f.name ≠ "_" := by simpa using hq.1
                simp only [Option.bind_eq_some_iff, Option.map_eq_some_iff] at hk
                obtain ⟨l1, h1, l2, h2, rfl⟩ := hk
                have ca := cks_take ha
                have cb := cks_take hb2
                have hla : as.length = l1.length + l2.length := by have := cks_get ha; simpa using this
                have hlb : bs.length = l1.length + l2.length := by have := cks_get hb2; simpa using this
                obtain ⟨r1, r2, e1, e2, rfl⟩ := eqC_split (k := l1.length) (by omega) (by omega) he
                obtain ⟨a, b, p1, p2, p3⟩ := (ih f.type l1 h1).1 _ _ xs ys off r1 ca.1 cb.1 (hra.take _) (hrb.take _) e1
                have := ihf (off + l1.length) l2 h2 _ _ xs ys r2 ca.2 cb.2 (hra.drop (by omega)) (hrb.drop (by omega)) e2 d hd
                rw [Op.eqFields, if_pos hname, hoff]
                simp only [Sem.run_bind, p1, p2, p3 d hd, Result.andThen_ok]
                cases r1
                · simp
                · simpa using this
          have hstruct : ∀ fs', P.underlying t = some (.struct fs') → ∀ (as bs : List AV) (xs ys : Array Value) (r : Bool), cksB l as = true → cksB l bs = true → AtRep F w as xs 0 → AtRep F w bs ys 0 → eqC as bs = some r →
              ∀ d, n + 1 ≤ d → (Op.equalIn d t (.agg xs) (.agg ys)).run P w = .ok r w := by
            intro fs' hfs' as bs xs ys r ha hb2 hra hrb he d hd
            rw [hu] at hfs'; cases hfs'
            obtain ⟨d', rfl⟩ : ∃ d', d = d' + 1 := ⟨d - 1, by omega⟩
            have hf : P.fieldsOf t = fs := by simp [Program.fieldsOf, hu]
            rw [run_equalIn_struct w d' t xs ys (by rw [hf]; exact hu) hst, hf]
            exact hfields fs.toList 0 l hl as bs xs ys r ha hb2 hra hrb he d' (by omega)
          refine ⟨?_, hstruct⟩
          intro as bs xs ys off r ha hb2 hra hrb he
          have hla := cks_get ha
          have hlb := cks_get hb2
          have hagg : (isAgg t).run P w = .ok true w := by simp [isAgg, run_underlying hu]
          have hso : (sizeOf t).run P w = .ok l.length w := by simp [sizeOf, typeInfo, hi, hsz]
          refine ⟨.agg (xs.extract off (off + l.length)), .agg (ys.extract off (off + l.length)), by simp [part, hagg, hso], by simp [part, hagg, hso], ?_⟩
          refine hstruct fs hu as bs _ _ r ha hb2 ?_ ?_ he
          · have := hra.extract; rw [hla] at this; exact this
          · have := hrb.extract; rw [hlb] at this; exact this
    · cases h

theorem opBin_sound (hT : TTOk P T) (h : Models E0 H0 w0 E s a w) {op : BinOp} {t t' : TypeId} {x y : Operand} (ho : o.op = .binOp op t x y t')
    (hf : opBin T s o.dst op t (s.ev x) (s.ev y) = some s') (hc : s'.cond) : s.cond ∧ Done P o E0 H0 w0 s' a w := by
  have hx := h.ev x
  have hy := h.ev y
  unfold opBin at hf
  split at hf
  · rename_i k n k' m hvx hvy
    rw [hvx] at hx; rw [hvy] at hy
    cases hkq : decide (k = k') with
    | false => rw [hkq] at hf; cases hf
    | true =>
      rw [hkq, cond_true] at hf
      have hk : k = k' := of_decide_eq_true hkq
      subst hk
      simp only [Option.bind_eq_some_iff] at hf
      obtain ⟨r, hr, hf⟩ := hf
      obtain ⟨hc1, hc2⟩ := need_setd hf hc
      refine ⟨hc1, ?_⟩
      cases op <;> simp only [intBin, Option.some.injEq, reduceCtorEq] at hr <;> subst hr
      all_goals first
        | (refine Done.value (h.cond _) hf (Rep.mk_int _ _) ?_; simp only at hc2; simp [execOp, ho, hx.int', hy.int', eqGuard, binOp, Op.intArith, Op.intDiv, hc2]; done)
        | (refine Done.value (h.cond _) hf (Rep.mk_bool _) ?_; simp [execOp, ho, hx.int', hy.int', eqGuard, binOp, Op.intCmp]; done)
  · rename_i n m hvx hvy
    rw [hvx] at hx; rw [hvy] at hy
    simp only [Option.bind_eq_some_iff] at hf
    obtain ⟨r, hr, hf⟩ := hf
    obtain ⟨hc1, hc2⟩ := need_setd hf hc
    refine ⟨hc1, ?_⟩
    cases op <;> simp only [strBin, Option.some.injEq, reduceCtorEq] at hr <;> subst hr
    all_goals first
      | (refine Done.value (h.cond _) hf (Rep.mk_bool _) ?_; simp [execOp, ho, hx.str', hy.str', eqGuard, binOp, Op.stringOp]; done)
      | (refine Done.value (h.cond _) hf (Rep.mk_bool _) ?_; simp [execOp, ho, hx.str', hy.str', eqGuard, binOp, Op.stringOp, ← str_beq]; done)
      | (refine Done.value (h.cond _) hf (Rep.mk_str _) ?_
         have hc3 : ¬ (9223372036854775807 < ((n.size : Int) + (m.size : Int))) := by simp only at hc2; omega
         simp [execOp, ho, hx.str', hy.str', eqGuard, binOp, Op.stringOp, IntKind.max, IntKind.signed, IntKind.bits, hc3]; done)
  · rename_i n m hvx hvy
    rw [hvx] at hx; rw [hvy] at hy
    simp only [Option.bind_eq_some_iff] at hf
    obtain ⟨ts, hts, hf⟩ := hf
    obtain ⟨_, ⟨i, d, z, hi, hu, hsz, hby, hk, _⟩⟩ := hT t ts hts
    split at hf
    · rename_i hkk
      rw [hkk] at hk; cases hk
      refine ⟨cond_setd hf hc, Done.value h hf (Rep.mk_bool _) ?_⟩
      simp [execOp, ho, hx.bool', hy.bool', eqGuard, run_eql_bool hu]
    · rename_i hkk
      rw [hkk] at hk; cases hk
      refine ⟨cond_setd hf hc, Done.value h hf (Rep.mk_bool _) ?_⟩
      simp [execOp, ho, hx.bool', hy.bool', eqGuard, run_neq_bool hu]
    · cases hf
  · rename_i as bs hvx hvy
    rw [hvx] at hx; rw [hvy] at hy
    simp only [Option.bind_eq_some_iff] at hf
    obtain ⟨ts, hts, hf⟩ := hf
    cases hb : (ts.isAgg && (!ts.eq.isEmpty) && cksB ts.eq as && cksB ts.eq bs) with
    | false => rw [hb] at hf; cases hf
    | true =>
      rw [hb, cond_true] at hf
      rw [Bool.and_eq_true, Bool.and_eq_true, Bool.and_eq_true] at hb
      obtain ⟨⟨⟨hagg, hb1⟩, hb2⟩, hb3⟩ := hb
      have hb : (True ∧ cksB ts.eq as = true) ∧ cksB ts.eq bs = true := ⟨⟨trivial, hb2⟩, hb3⟩
      simp only [Option.bind_eq_some_iff] at hf
      obtain ⟨r, hr, hf⟩ := hf
      have hTt := hT t ts hts
      have hne : ts.eq ≠ [] := by simpa using hb1
      obtain ⟨heq, hgd⟩ := hTt.eqk hne
      have free : ∀ {ks : List CK} {cs : List AV}, cksB ks cs = true → ∀ (j : Nat) c, cs[j]? = some c → isFree c = true := by
        intro ks
        induction ks with
        | nil => intro cs hk j c hj; cases cs with | nil => simp at hj | cons _ _ => simp [cksB] at hk
        | cons k ks ih =>
          intro cs hk j c hj
          cases cs with
          | nil => simp at hj
          | cons c0 cs =>
            simp only [cksB, Bool.and_eq_true] at hk
            cases j with
            | zero =>
              simp at hj; subst hj
              cases k <;> cases c0 <;> simp [ckB] at hk <;> rfl
            | succ j => exact ih hk.2 j c (by simpa using hj)
      have arr : ∀ {cs : List AV} {v : Value}, cksB ts.eq cs = true → Rep E w (.agg cs) v → ∃ xs : Array Value, v = .agg xs ∧ AtRep E.F w cs xs 0 := by
        intro cs v hk hv
        cases hv with
        | fz _ _ h => cases h
        | agg _ vs hn h =>
          refine ⟨vs.toArray, rfl, by simp [hn], fun j c hj => ?_⟩
          have := (h j c hj).toF (free hk j c hj)
          have hjl : j < vs.length := by
            rw [hn]
            rcases Nat.lt_or_ge j cs.length with g | g
            · exact g
            · rw [List.getElem?_eq_none g] at hj; cases hj
          have e : vs.toArray.getD (0 + j) default = vs.getD j default := by
            rw [Nat.zero_add]; simp [Array.getD, List.getD, hjl]
          rw [e]; exact this
      obtain ⟨xs, hax, hxs⟩ := arr hb.1.2 hx
      obtain ⟨ys, hay, hys⟩ := arr hb.2 hy
      have hstruct : ∀ fs, P.underlying t = some (.struct fs) → (Op.equalIn 10000 t (.agg xs) (.agg ys)).run P w = .ok r w := fun fs hfs =>
        (eqT_sound E.F 20 t ts.eq heq).2 fs hfs as bs xs ys r hb.1.2 hb.2 hxs hys hr 10000 (by omega)
      have hs : ∃ fs, P.underlying t = some (.struct fs) := by
        obtain ⟨_, ⟨i, d, z, hi, hu, hsz, hby, hk, hz, hzl, hzs, hzr⟩⟩ := hTt
        cases hkk : ts.kind with
        | struct l => rw [hkk] at hk; obtain ⟨fields, rfl, _⟩ := hk; exact ⟨fields, hu⟩
        | array m e => rw [hkk] at hk; cases hk; simp [eqT, hu] at heq
        | _ => simp [TS.isAgg, hkk] at hagg
      obtain ⟨fs, hfs⟩ := hs
      have hrun := hstruct fs hfs
      cases op with
      | eql =>
        refine ⟨cond_setd hf hc, Done.value h hf (Rep.mk_bool _) ?_⟩
        simp [execOp, ho, hax, hay, run_eqGuard_agg w .eql t x y xs ys hgd, run_eql_struct, hrun]
      | neq =>
        refine ⟨cond_setd hf hc, Done.value h hf (Rep.mk_bool _) ?_⟩
        simp [execOp, ho, hax, hay, run_eqGuard_agg w .neq t x y xs ys hgd, run_neq_struct, hrun]
      | _ => cases hf
  · cases hf

theorem opUn_sound (h : Models E0 H0 w0 E s a w) {op : UnOp} {t : TypeId} {x : Operand} (ho : o.op = .unOp op t x)
    (hf : opUn s o.dst op (s.ev x) = some s') (hc : s'.cond) : s.cond ∧ Done P o E0 H0 w0 s' a w := by
  have hx := h.ev x
  unfold opUn at hf
  split at hf
  · rename_i b hv
    rw [hv] at hx
    exact ⟨cond_setd hf hc, Done.value h hf (Rep.mk_bool _) (by simp [execOp, ho, hx.bool', Op.unary])⟩
  · rename_i k n hv
    rw [hv] at hx
    exact ⟨cond_setd hf hc, Done.value h hf (Rep.mk_int _ _) (by simp [execOp, ho, hx.int', Op.unary, Op.intArith])⟩
  · cases hf

theorem opConvert_sound (hT : TTOk P T) (h : Models E0 H0 w0 E s a w) {src dst : TypeId} {x : Operand} (ho : o.op = .convert src dst x)
    (hf : opConvert T s o.dst src dst (s.ev x) = some s') (hc : s'.cond) : s.cond ∧ Done P o E0 H0 w0 s' a w := by
  have hx := h.ev x
  simp only [opConvert, Option.bind_eq_some_iff] at hf
  obtain ⟨ts, hts, td, htd, hf⟩ := hf
  obtain ⟨_, ⟨i, d, z, hi, hu, hsz, hby, hk, _⟩⟩ := hT src ts hts
  obtain ⟨_, ⟨i', d', z', hi', hu', hsz', hby', hk', _⟩⟩ := hT dst td htd
  split at hf
  · rename_i k k' n hkk hv
    rw [hkk] at hk'; cases hk'
    rw [hv] at hx
    refine ⟨cond_setd hf hc, Done.value h hf (Rep.mk_int _ _) ?_⟩
    simp [execOp, ho, hx.int', convert, run_underlying hu, run_underlying hu', Conv.intToInt]
  · rename_i b hkk hv
    rw [hkk] at hk'; cases hk'
    rw [hv] at hx
    refine ⟨cond_setd hf hc, Done.value h hf (Rep.mk_str _) ?_⟩
    simp [execOp, ho, hx.str', convert, run_underlying hu, run_underlying hu']
  · rename_i k n hkk hv
    rw [hkk] at hk'; cases hk'
    rw [hv] at hx
    refine ⟨cond_setd hf hc, Done.value h hf (Rep.mk_str _) ?_⟩
    simp [execOp, ho, hx.int', convert, run_underlying hu, run_underlying hu', Conv.intToString]
  · rename_i n row hkk hv
    rw [hkk] at hk'; cases hk'
    rw [hv] at hx
    unfold opBytesStr at hf
    split at hf
    · rename_i e hke
      rw [hke] at hk; cases hk
      simp only [Option.bind_eq_some_iff] at hf
      obtain ⟨te, hte, hf⟩ := hf
      obtain ⟨_, ⟨ie, de, ze, hie, hue, _, _, hkde, _⟩⟩ := hT e te hte
      split at hf
      · rename_i hku
        rw [hku] at hkde; cases hkde
        obtain ⟨hc1, hrow⟩ := need_setd hf hc
        refine ⟨hc1, ?_⟩
        generalize hax : a.eval x = ax at hx
        have hstr : (convert src dst ax).run P w = .ok (.string (bytesOf n row)) w := by
          cases hx with
          | fz _ _ hx =>
          cases hx with
          | empty _ ao cap =>
            rw [run_convert_bytes_string w src dst e ao 0 cap hu hue hu']
            cases ao with
            | none => simp [Conv.bytesToString, bytesOf]; rfl
            | some b =>
              rw [run_bytesToString w b 0 cap [] (by simp [loadCells, loadCellsFrom])]
              rfl
          | list _ _ b off cap sz vs hF hcap hsz hcl hf hr =>
            rw [run_convert_bytes_string w src dst e _ n cap hu hue hu']
            have hval : ∀ i, i < n → ∃ v, row i = [.int .u8 v] ∧ w.cell? ⟨b, off + i, none⟩ = some (.int .u8 v) := fun i hi => by
              obtain ⟨v, hv⟩ := hrow i hi
              have hs1 : sz = 1 := by have := hsz i hi; rw [hv] at this; simpa using this.symm
              subst hs1
              have h1 := hcl i 0 _ hi (by rw [hv]; rfl)
              have h2 := hr i 0 _ hi (by rw [hv]; rfl)
              have h3 : vs i 0 = .int .u8 v := by generalize vs i 0 = y at h2; cases h2; rfl
              rw [h3] at h1
              exact ⟨v, hv, by simpa using h1⟩
            let num : Nat → Int := fun i => match row i with | [.int .u8 v] => v | _ => 0
            have hnum : ∀ i, i < n → w.cell? ⟨b, off + i, none⟩ = some (.int .u8 (num i)) := fun i hi => by
              obtain ⟨v, e1, e2⟩ := hval i hi
              simp only [num, e1]; exact e2
            have hload : (loadCells ⟨b, off, none⟩ n).run P w = .ok (((List.range n).map num).map (Value.int .u8)).toArray w := by
              have := run_loadCells (P := P) w ⟨b, off, none⟩ n (fun i => .int .u8 (num i)) (fun i hi => by rw [addr_add]; exact hnum i hi)
              rw [this, List.map_map]; rfl
            rw [run_bytesToString w _ n cap _ hload]
            congr 2
            have hfold : ∀ (l : List Int) (r : ByteArray), l.foldl (fun r n => r.push (UInt8.ofNat n.toNat)) r = ⟨r.data ++ (l.map fun n => UInt8.ofNat n.toNat).toArray⟩ := by
              intro l
              induction l with
              | nil => intro r; simp
              | cons n l ih => intro r; rw [List.foldl_cons, ih]; simp [ByteArray.push]
            rw [hfold]
            unfold bytesOf
            congr 1
            simp only [ByteArray.empty, ByteArray.emptyWithCapacity]
            have : (List.range n).map (fun i => match row i with | [.int .u8 v] => UInt8.ofNat v.toNat | _ => 0) = ((List.range n).map num).map fun n => UInt8.ofNat n.toNat := by
              rw [List.map_map]
              refine List.map_congr_left fun i hi => ?_
              obtain ⟨v, e1, _⟩ := hval i (List.mem_range.1 hi)
              simp [num, e1]
            exact (Array.empty_append ..).trans (congrArg List.toArray this.symm)
        exact Done.value (h.cond _) hf (Rep.mk_str _) (by simp only [execOp, ho, hax, Sem.run_bind, hstr, Result.andThen, Sem.run_pure])
      · cases hf
    · cases hf
  · cases hf

theorem opExtract_sound (h : Models E0 H0 w0 E s a w) {x : Operand} {j : Nat} (ho : o.op = .extract x j)
    (hf : opExtract s o.dst (s.ev x) j = some s') (hc : s'.cond) : s.cond ∧ Done P o E0 H0 w0 s' a w := by
  have hx := h.ev x
  unfold opExtract at hf
  split at hf
  · rename_i vs hv
    rw [hv] at hx
    simp only [Option.bind_eq_some_iff] at hf
    obtain ⟨v, hvj, hf⟩ := hf
    refine ⟨cond_setd hf hc, ?_⟩
    generalize hax : a.eval x = ax at hx
    cases hx with
    | fz _ _ hx => cases hx
    | tup _ xs hn hr =>
      have hj : j < xs.length := by
        rw [hn]
        rcases Nat.lt_or_ge j vs.length with g | g
        · exact g
        · rw [List.getElem?_eq_none g] at hvj; cases hvj
      have := hr j v hvj
      refine Done.value h hf (this) ?_
      simp [execOp, ho, hax, Instr.extract, hj, List.getD]
  · cases hf

theorem opMakeInterface_sound (hT : TTOk P T) (h : Models E0 H0 w0 E s a w) {t : TypeId} {x : Operand} (ho : o.op = .makeInterface t x)
    (hf : opMakeInterface T s o.dst t (s.ev x) = some s') (hc : s'.cond) : s.cond ∧ Done P o E0 H0 w0 s' a w := by
  have hx := h.ev x
  simp only [opMakeInterface, Option.bind_eq_some_iff] at hf
  obtain ⟨ts, hts, hf⟩ := hf
  obtain ⟨_, ⟨i, d, z, hi, hu, hsz, hby, hk, _⟩⟩ := hT t ts hts
  cases hfr : (isFree (s.ev x) && ts.kind.solid) with
  | false => rw [hfr] at hf; cases hf
  | true =>
    rw [hfr, cond_true] at hf
    rw [Bool.and_eq_true] at hfr
    refine ⟨cond_setd hf hc, Done.value h hf ((.fz _ _ (.iface t _ _ (hx.toF hfr.1)))) ?_⟩
    simp only [execOp, ho, Instr.makeInterface, Sem.run_bind, run_underlying hu, Result.andThen]
    cases hkk : ts.kind with
    | plain => rw [hkk] at hfr; cases hfr.2
    | struct fs => rw [hkk] at hk; obtain ⟨f, rfl, _⟩ := hk; rfl
    | _ => rw [hkk] at hk; cases hk; rfl

end
end Go.Av

namespace Go.Av
variable [Drawn]

/-- One block alone is written. -/
structure Only (g : Nat) (w w' : World) : Prop where
  os : w'.os = w.os
  tape : w'.tape = w.tape
  output : w'.output = w.output
  size : w'.heap.size = w.heap.size
  block : ∀ b, b ≠ g → w'.heap[b]? = w.heap[b]?
  frz : ∀ a, w'.frozen? a = w.frozen? a
  drawn : w'.drawn = w.drawn

theorem Only.setRow (w : World) (g : Nat) (cs : Array Value) : Only g w (w.setRow g cs) := ⟨rfl, rfl, rfl, by simp, fun b hb => setRow_other w g b cs hb, fun a => by
  unfold World.frozen?
  by_cases h : a.block = g
  · cases hg : w.heap[g]? with
    | none =>
      have : (w.setRow g cs).heap[g]? = none := by simp [World.setRow, Array.getElem?_modify, hg]
      rw [h, this, hg]
    | some o =>
      cases o with
      | cells c t fr => rw [h, setRow_heap w g c cs t fr hg, hg]
      | _ =>
        rw [h, hg]
        simp [World.setRow, Array.getElem?_modify, hg]
  · rw [setRow_other w g _ cs h], rfl⟩

theorem spliceGet {α : Type} (l new : List α) (p q : Nat) (hp : p ≤ l.length) :
    (l.take p ++ new ++ l.drop (p + new.length))[q]? = if q < p then l[q]? else if q < p + new.length then new[q - p]? else l[q]? := by
  by_cases h1 : q < p
  · rw [if_pos h1, List.append_assoc, List.getElem?_append_left (by rw [List.length_take]; omega), List.getElem?_take, if_pos h1]
  · rw [if_neg h1, List.append_assoc, List.getElem?_append_right (by rw [List.length_take]; omega)]
    have e : (l.take p).length = p := by rw [List.length_take]; omega
    rw [e]
    by_cases h2 : q < p + new.length
    · rw [if_pos h2, List.getElem?_append_left (by omega)]
    · rw [if_neg h2, List.getElem?_append_right (by omega), List.getElem?_drop]
      congr 1; omega

section
variable {E0 : Env} {H0 : List AObj} {w0 : World} {E : Env} {s s' : St} {a : Act} {w : World} {P : Program} {T : TT} {o : Oper}

theorem set_get {α : Type} {l : List α} {i j : Nat} {x y : α} (h : (l.set i x)[j]? = some y) : (i = j ∧ y = x) ∨ (i ≠ j ∧ l[j]? = some y) := by
  rw [List.getElem?_set] at h
  by_cases hij : i = j
  · rw [if_pos hij] at h
    split at h
    · cases h; exact .inl ⟨hij, rfl⟩
    · cases h
  · rw [if_neg hij] at h; exact .inr ⟨hij, h⟩

theorem live_set {H : List AObj} {id j : Nat} {ob ob' : AObj} (hid : H[id]? = some ob) (hne : ob ≠ .dead) (h : Live (H.set id ob') j) : Live H j := by
  obtain ⟨o, ho, hn⟩ := h
  rcases set_get ho with ⟨rfl, _⟩ | ⟨_, ho⟩
  · exact ⟨ob, hid, hne⟩
  · exact ⟨o, ho, hn⟩

theorem Models.writeObj (h : Models E0 H0 w0 E s a w) {id g : Nat} {ob ob' : AObj} {w' : World} (hid : s.hp[id]? = some ob) (hne : ob ≠ .dead) (hg : E.ρ id = some g)
    (ho : Only g w w') (hn : ObjRep E w' id ob') : Models E0 H0 w0 E { s with hp := s.hp.set id ob' } a w' := by
  have hlive : Live s.hp id := ⟨ob, hid, hne⟩
  have hF : ∀ b, E.F b → w'.heap[b]? = w.heap[b]? := fun b hb => ho.block b (fun e => h.heap.fr id g hlive hg (e ▸ hb))
  constructor
  · exact h.size
  · intro t; exact (h.tmps t).mono (Env.Le.refl E) hF
  · refine ⟨by rw [List.length_set]; exact h.heap.len, fun i oi hi => ?_, fun i b hl hb => by rw [ho.size]; exact h.heap.lt i b (live_set hid hne hl) hb, fun i b hl hb => h.heap.fr i b (live_set hid hne hl) hb,
      fun i j b hi hj => h.heap.inj i j b (live_set hid hne hi) (live_set hid hne hj), fun b hb => by rw [ho.size]; exact h.heap.frz b hb⟩
    rcases set_get hi with ⟨rfl, rfl⟩ | ⟨hij, hi⟩
    · exact hn
    · exact (h.heap.obj i oi hi).same hF (fun hne' b hb => ho.block b (fun e => by subst e; exact hij (h.heap.inj id i b hlive ⟨oi, hi, hne'⟩ hg hb)))
  · exact ⟨h.base.1, by rw [List.length_set]; exact h.base.2⟩
  · intro i hi; obtain ⟨a1, a2⟩ := h.old i hi; exact ⟨fun hl => a1 (live_set hid hne hl), a2⟩
  · intro i b hi hl hb; exact h.new i b hi (live_set hid hne hl) hb
  · exact h.F
  · exact h.Fnew
  · refine ⟨ho.os.trans h.keeps.os, ho.tape.trans h.keeps.tape, ho.output.trans h.keeps.output, by rw [ho.size]; exact h.keeps.size, fun b hb hn' => ?_, fun a ha => (ho.frz a).trans (h.keeps.frz a ha), fun d => by rw [ho.drawn]; exact h.keeps.drawn d⟩
    by_cases hbg : b = g
    · exfalso
      subst hbg
      rcases Nat.lt_or_ge id s.base with hlt | hge
      · obtain ⟨l0, r0, _⟩ := h.old id hlt
        exact hn' ⟨id, l0 hlive, by rw [← r0]; exact hg⟩
      · rcases h.new id b hge hlive hg with q | q
        · omega
        · exact hn' q
    · rw [ho.block b hbg]; exact h.keeps.block b hb hn'
  · exact h.laid

theorem storeVar_run {t : TypeId} {i : TypeInfo} (hi : P.info? t = some i) (g off : Nat) (ty : TypeId) (v : Value) (cur : Array Value) (hg : w.heap[g]? = some (.cells cur ty (0, 0)))
    (hs : v.cells.size = i.size) (hle : off + v.cells.size ≤ cur.size) (h1 : ∀ u ∈ v.cells.toList, u.oneCell' = true) :
    (storeVar t ⟨g, off, none⟩ v).run P w = .ok () (w.setRow g (cur.toList.take off ++ v.cells.toList ++ cur.toList.drop (off + v.cells.toList.length)).toArray) := by
  have := run_storeCells_at P g off ty v.cells.toList 0 cur w hg (by simpa using hle) h1
  simp only [Nat.add_zero] at this
  simp [storeVar, sizeOf, typeInfo, hi, hs, this]

theorem splice_length (cs new : List AV) (off : Nat) (h : off + new.length ≤ cs.length) : (splice cs off new).length = cs.length := by
  simp only [splice, List.length_append, List.length_take, List.length_drop]; omega

theorem splice_get (cs new : List AV) (off q : Nat) (h : off ≤ cs.length) :
    (splice cs off new)[q]? = if q < off then cs[q]? else if q < off + new.length then new[q - off]? else cs[q]? := spliceGet cs new off q h

theorem all_isFree_isCell {cs : List AV} (h : cs.all isFree = true) : cs.all isCell = true :=
  List.all_eq_true.2 fun c hc => isFree_isCell (List.all_eq_true.1 h c hc)

theorem opStore_sound (hT : TTOk P T) (h : Models E0 H0 w0 E s a w) {t : TypeId} {x y : Operand} (ho : o.op = .store t x y) (hdst : o.dst = none)
    (hf : opStore T s t (s.ev x) (s.ev y) = some s') (hc : s'.cond) : s.cond ∧ Done P o E0 H0 w0 s' a w := by
  simp only [opStore, Option.bind_eq_some_iff] at hf
  obtain ⟨ts, hts, hf⟩ := hf
  obtain ⟨_, ⟨i, d, z, hi, hu, hsz, hby, hk, _⟩⟩ := hT t ts hts
  have hx := h.ev x
  have hy := h.ev y
  have hput : ∀ v, a.put o.dst v = a := fun v => by rw [hdst]; rfl
  cases hq : Nat.beq (cellsOf (s.ev y)).length ts.size with
  | false => rw [hq] at hf; cases hf
  | true =>
    rw [hq, cond_true] at hf
    have hlen := Nat.eq_of_beq_eq_true hq
    have exec : ∀ b off w', a.eval x = .pointer (some ⟨b, off, none⟩) → (storeVar t ⟨b, off, none⟩ (a.eval y)).run P w = .ok () w' → (execOp a.eval o).run P w = .ok .skip w' := by
      intro b off w' hax hrun
      simp [execOp, ho, hax, Instr.storeAt, Instr.sureAddr, hrun]
    have one : ∀ {cs : List AV}, cs = cellsOf (s.ev y) → cs.all isCell = true → ∀ u ∈ (a.eval y).cells.toList, u.oneCell' = true := by
      intro cs hcs hall u hu'
      subst hcs
      obtain ⟨h1, h2⟩ := cellsOf_rep hy hall
      obtain ⟨j, hj, rfl⟩ := List.mem_iff_getElem.1 hu'
      have hj' : j < (cellsOf (s.ev y)).length := by rw [← h1]; simpa using hj
      obtain ⟨g1, u, g2, g3⟩ := h2 j _ (List.getElem?_eq_getElem hj')
      have := g3.oneCell g1
      rw [Array.getElem?_eq_some_iff] at g2
      obtain ⟨_, g2⟩ := g2
      simp only [Array.getElem_toList]; rw [g2]; exact this
    cases hv : s.ev x with
    | hptr id idx off =>
      rw [hv] at hf hx
      simp only at hf
      cases hid : s.hp[id]? with
      | none => rw [hid] at hf; cases hf
      | some ob =>
        cases ob with
        | arr sz n row =>
          rw [hid] at hf
          simp only at hf
          cases hb : (Nat.ble (off + ts.size) sz && (cellsOf (s.ev y)).all isFree) with
          | false => rw [hb] at hf; cases hf
          | true =>
            rw [hb, cond_true, Option.some.injEq] at hf
            subst hf
            rw [Bool.and_eq_true] at hb
            have hle := Nat.le_of_ble_eq_true hb.1
            have hcell := all_isFree_isCell hb.2
            obtain ⟨hc1, hidx⟩ := hc
            refine ⟨hc1, ?_⟩
            obtain ⟨f1, f2, f3, f4, f5, f6⟩ := h.heap.obj id _ hid
            generalize hax : a.eval x = ax at hx
            cases hx with
            | fz _ _ hx => cases hx
            | hptr _ _ _ g _ hg =>
              rw [hg] at f6
              obtain ⟨arr, ty, g1, g2, g3⟩ := f6
              obtain ⟨c1, c2⟩ := cellsOf_rep hy hcell
              have hpos : (E.ω id + idx) * sz + sz ≤ arr.size := by
                have : (E.ω id + idx + 1) * sz ≤ (E.ω id + E.κ id) * sz := Nat.mul_le_mul_right _ (by omega)
                rw [Nat.add_mul, Nat.one_mul] at this
                omega
              rw [f1] at hax
              have hrun := storeVar_run (w := w) hi g ((E.ω id + idx) * sz + off) ty (a.eval y) arr g1 (by rw [c1, hlen, hsz]) (by omega) (one rfl hcell)
              refine ⟨_, _, E, exec _ _ _ hax hrun, ?_⟩
              simp only
              rw [hput]
              have honly := Only.setRow w g (arr.toList.take ((E.ω id + idx) * sz + off) ++ (a.eval y).cells.toList ++ arr.toList.drop ((E.ω id + idx) * sz + off + (a.eval y).cells.toList.length)).toArray
              refine Models.cond (h.writeObj hid (by simp) hg honly ?_) _
              have hlive : Live s.hp id := ⟨_, hid, by simp⟩
              have hF : ∀ bb, E.F bb → (w.setRow g (arr.toList.take ((E.ω id + idx) * sz + off) ++ (a.eval y).cells.toList ++ arr.toList.drop ((E.ω id + idx) * sz + off + (a.eval y).cells.toList.length)).toArray).heap[bb]? = w.heap[bb]? :=
                fun bb hbb => honly.block bb (fun e => h.heap.fr id g hlive hg (e ▸ hbb))
              have hrl := f5 idx hidx
              refine ArrRep.fz (row := setRow idx off (cellsOf (s.ev y)) row) ⟨f1, f2, f3, f4, fun i' hi' => ?_, ?_⟩
              · by_cases hii : i' = idx
                · simp only [setRow, hii, if_true]; rw [splice_length _ _ _ (by omega)]; exact hrl
                · simp only [setRow, hii, if_false]; exact f5 i' hi'
              · rw [hg]
                refine ⟨_, ty, setRow_heap _ _ _ _ _ _ g1, ?_, fun i' j c hi' hj => ?_⟩
                · simp only [List.size_toArray, List.length_append, List.length_take, List.length_drop, Array.length_toList]
                  rw [c1]; omega
                · rw [List.getElem?_toArray, spliceGet _ _ _ _ (by rw [Array.length_toList]; omega)]
                  have el : (a.eval y).cells.toList.length = (cellsOf (s.ev y)).length := by simpa using c1
                  rw [el] at hF ⊢
                  by_cases hii : i' = idx
                  · subst hii
                    simp only [setRow, if_true] at hj
                    rw [splice_get _ _ _ _ (by omega)] at hj
                    by_cases q1 : j < off
                    · rw [if_pos q1] at hj
                      rw [if_pos (by omega)]
                      obtain ⟨v, e2, e3⟩ := g3 i' j c hi' hj
                      exact ⟨v, by simpa using e2, e3.mono (fun _ h => h) hF⟩
                    · rw [if_neg q1] at hj
                      rw [if_neg (by omega)]
                      by_cases q2 : j < off + (cellsOf (s.ev y)).length
                      · rw [if_pos q2] at hj
                        rw [if_pos (by omega)]
                        obtain ⟨e1, v, e2, e3⟩ := c2 _ c hj
                        refine ⟨v, ?_, (e3.toF (List.all_eq_true.1 hb.2 c (List.mem_of_getElem? hj))).mono (fun _ h => h) hF⟩
                        rw [show (E.ω id + i') * sz + j - ((E.ω id + i') * sz + off) = j - off by omega]
                        simpa using e2
                      · rw [if_neg q2] at hj
                        rw [if_neg (by omega)]
                        obtain ⟨v, e2, e3⟩ := g3 i' j c hi' hj
                        exact ⟨v, by simpa using e2, e3.mono (fun _ h => h) hF⟩
                  · simp only [setRow, hii, if_false] at hj
                    obtain ⟨v, e2, e3⟩ := g3 i' j c hi' hj
                    have hjl : j < sz := by
                      rw [← f5 i' hi']
                      rcases Nat.lt_or_ge j (row i').length with q | q
                      · exact q
                      · rw [List.getElem?_eq_none q] at hj; cases hj
                    refine ⟨v, ?_, e3.mono (fun _ h => h) hF⟩
                    rcases Nat.lt_or_ge i' idx with q | q
                    · have : (E.ω id + i' + 1) * sz ≤ (E.ω id + idx) * sz := Nat.mul_le_mul_right _ (by omega)
                      rw [Nat.add_mul, Nat.one_mul] at this
                      rw [if_pos (by omega)]; simpa using e2
                    · have : (E.ω id + idx + 1) * sz ≤ (E.ω id + i') * sz := Nat.mul_le_mul_right _ (by omega)
                      rw [Nat.add_mul, Nat.one_mul] at this
                      rw [if_neg (by omega), if_neg (by omega)]; simpa using e2
        | var cs =>
          rw [hid] at hf
          simp only at hf
          cases hb : (Nat.beq idx 0 && Nat.ble (off + ts.size) cs.length && (cellsOf (s.ev y)).all isCell) with
          | false => rw [hb] at hf; cases hf
          | true =>
            rw [hb, cond_true, Option.some.injEq] at hf
            subst hf
            rw [Bool.and_eq_true, Bool.and_eq_true] at hb
            have hi0 := Nat.eq_of_beq_eq_true hb.1.1
            subst hi0
            have hle := Nat.le_of_ble_eq_true hb.1.2
            refine ⟨hc, ?_⟩
            obtain ⟨h0, b, arr, ty, hρ, g1, g2, g3⟩ := h.heap.obj id _ hid
            generalize hax : a.eval x = ax at hx
            cases hx with
            | fz _ _ hx => cases hx
            | hptr _ _ _ g _ hg =>
              rw [hρ] at hg; cases hg
              rw [h0, Nat.zero_add, Nat.zero_mul, Nat.zero_add] at hax
              obtain ⟨c1, c2⟩ := cellsOf_rep hy hb.2
              have hrun := storeVar_run (w := w) hi b off ty (a.eval y) arr g1 (by rw [c1, hlen, hsz]) (by omega) (one rfl hb.2)
              refine ⟨_, _, E, exec _ _ _ hax hrun, ?_⟩
              simp only
              rw [hput]
              have honly := Only.setRow w b (arr.toList.take off ++ (a.eval y).cells.toList ++ arr.toList.drop (off + (a.eval y).cells.toList.length)).toArray
              have hlive : Live s.hp id := ⟨_, hid, by simp⟩
              refine h.writeObj hid (by simp) hρ honly ⟨h0, b, _, ty, hρ, setRow_heap _ _ _ _ _ _ g1, ?_, fun j c hj => ?_⟩
              · simp only [List.size_toArray, List.length_append, List.length_take, List.length_drop, Array.length_toList]
                rw [splice_length _ _ _ (by omega)]; omega
              · rw [splice_get _ _ _ _ (by omega)] at hj
                have hF : ∀ bb, E.F bb → (w.setRow b (arr.toList.take off ++ (a.eval y).cells.toList ++ arr.toList.drop (off + (a.eval y).cells.toList.length)).toArray).heap[bb]? = w.heap[bb]? :=
                  fun bb hbb => honly.block bb (fun e => h.heap.fr id b hlive hρ (e ▸ hbb))
                rw [List.getElem?_toArray, spliceGet _ _ _ _ (by rw [Array.length_toList]; omega)]
                have el : (a.eval y).cells.toList.length = (cellsOf (s.ev y)).length := by simpa using c1
                rw [el] at hF ⊢
                by_cases q1 : j < off
                · rw [if_pos q1] at hj ⊢
                  obtain ⟨e1, v, e2, e3⟩ := g3 j c hj
                  exact ⟨e1, v, by simpa using e2, e3.mono (Env.Le.refl E) hF⟩
                · rw [if_neg q1] at hj ⊢
                  by_cases q2 : j < off + (cellsOf (s.ev y)).length
                  · rw [if_pos q2] at hj ⊢
                    obtain ⟨e1, v, e2, e3⟩ := c2 _ c hj
                    exact ⟨e1, v, by simpa using e2, e3.mono (Env.Le.refl E) hF⟩
                  · rw [if_neg q2] at hj ⊢
                    obtain ⟨e1, v, e2, e3⟩ := g3 j c hj
                    exact ⟨e1, v, by simpa using e2, e3.mono (Env.Le.refl E) hF⟩
        | _ => rw [hid] at hf; cases hf
    | _ => rw [hv] at hf; cases hf

end
end Go.Av

namespace Go.Av
variable [Drawn]

section
variable {E0 : Env} {H0 : List AObj} {w0 : World} {E : Env} {s s' : St} {a : Act} {w : World} {P : Program} {T : TT} {o : Oper}

theorem Models.newF (h : Models E0 H0 w0 E s a w) {w' : World} (hs : Same w w') (g : Nat) (hg : w.heap.size ≤ g) (hg' : g < w'.heap.size) :
    Models E0 H0 w0 { E with F := fun b => E.F b ∨ b = g } s a w' := by
  have hle : E.Le { E with F := fun b => E.F b ∨ b = g } := ⟨fun b h => .inl h, Nat.le_refl _, fun _ _ => rfl, fun _ _ => rfl, fun _ _ => rfl, fun _ _ => rfl⟩
  have hF : ∀ b, E.F b → w'.heap[b]? = w.heap[b]? := fun b hb => hs.block b (h.heap.frz b hb)
  constructor
  · exact h.size
  · intro t; exact (h.tmps t).mono hle hF
  · refine ⟨h.heap.len, ?_, ?_, ?_, h.heap.inj, ?_⟩
    · intro id ob hid
      exact (h.heap.obj id ob hid).mono (by have := get_lt hid; have := h.heap.len; omega) hle hF (fun hne b hb => hs.block b (h.heap.lt id b ⟨ob, hid, hne⟩ hb))
    · intro id b hl hb; exact Nat.lt_of_lt_of_le (h.heap.lt id b hl hb) hs.size
    · intro id b hl hb hF'
      rcases hF' with hF' | e
      · exact h.heap.fr id b hl hb hF'
      · have := h.heap.lt id b hl hb; omega
    · intro b hb
      rcases hb with hb | e
      · exact Nat.lt_of_lt_of_le (h.heap.frz b hb) hs.size
      · subst e; exact hg'
  · exact h.base
  · exact h.old
  · exact h.new
  · exact fun b hb => .inl (h.F b hb)
  · intro b hb
    rcases hb with hb | e
    · exact h.Fnew b hb
    · subst e; exact .inr (.inl (Nat.le_trans h.keeps.size hg))
  · exact h.keeps.trans (O' := fun _ => False) hs.keeps (fun _ _ h => h.elim)
  · exact h.laid

/-- An object is given up; a new one takes its block, or a new block. -/
theorem Models.moveObj (h : Models E0 H0 w0 E s a w) {id : Nat} {ob ob' : AObj} {w' : World} {r : Option Nat} {sg kp om : Nat} (hid : s.hp[id]? = some ob) (hne : ob ≠ .dead)
    (hos : w'.os = w.os) (htape : w'.tape = w.tape) (hout : w'.output = w.output) (hfz : ∀ a, a.block < w.heap.size → w'.frozen? a = w.frozen? a) (hdr : DrawnOn → w.drawn ≤ w'.drawn) (hsz : w.heap.size ≤ w'.heap.size)
    (hblk : ∀ b, b < w.heap.size → E.ρ id ≠ some b → w'.heap[b]? = w.heap[b]?)
    (hr : ∀ b, r = some b → b < w'.heap.size ∧ (E.ρ id = some b ∨ w.heap.size ≤ b)) (hob : ObjRep (E.new r sg kp om) w' s.hp.length ob') :
    Models E0 H0 w0 (E.new r sg kp om) { s with hp := s.hp.set id .dead ++ [ob'] } a w' := by
  have hlive : Live s.hp id := ⟨ob, hid, hne⟩
  have hN := h.heap.len
  have hle := E.new_le r sg kp om
  have hF : ∀ b, E.F b → w'.heap[b]? = w.heap[b]? := fun b hb' => hblk b (h.heap.frz b hb') (fun e => h.heap.fr id b hlive e hb')
  have hρn : (E.new r sg kp om).ρ s.hp.length = r := if_pos hN.symm
  have how : ∀ b, E.ρ id = some b → w0.heap.size ≤ b ∨ Owned E0 H0 b := fun b e => by
    rcases Nat.lt_or_ge id s.base with q | q
    · obtain ⟨a1, a2, _⟩ := h.old id q
      exact .inr ⟨id, a1 hlive, by rw [← a2]; exact e⟩
    · exact h.new id b q hlive e
  -- what lives behind
  have hlv : ∀ i, Live (s.hp.set id .dead ++ [ob']) i → (i < s.hp.length ∧ Live s.hp i ∧ i ≠ id) ∨ i = s.hp.length := fun i hl => by
    rcases live_append hl with ⟨g, o, ho, hn⟩ | g
    · rw [List.length_set] at g
      rcases set_get ho with ⟨rfl, rfl⟩ | ⟨hij, ho⟩
      · exact absurd rfl hn
      · exact .inl ⟨g, ⟨o, ho, hn⟩, fun e => hij e.symm⟩
    · rw [List.length_set] at g; exact .inr g
  constructor
  · exact h.size
  · intro t; exact (h.tmps t).mono hle hF
  · refine ⟨by simp [Env.new, hN], ?_, ?_, ?_, ?_, ?_⟩
    · intro i oi hi
      rcases append_get hi with ⟨g, hi⟩ | ⟨g, e⟩
      · rcases set_get hi with ⟨rfl, rfl⟩ | ⟨hij, hi⟩
        · trivial
        · have hil := get_lt hi
          exact (h.heap.obj i oi hi).mono (by omega) hle hF (fun hne' b hb' => hblk b (h.heap.lt i b ⟨oi, hi, hne'⟩ hb') (fun e => hij (h.heap.inj id i b hlive ⟨oi, hi, hne'⟩ e hb')))
      · rw [List.length_set] at g; subst g; subst e; exact hob
    · intro i b hl hb'
      rcases hlv i hl with ⟨g, hl, _⟩ | g
      · rw [hle.ρ i (by omega)] at hb'; exact Nat.lt_of_lt_of_le (h.heap.lt i b hl hb') hsz
      · subst g; rw [hρn] at hb'; exact (hr b hb').1
    · intro i b hl hb' hF'
      rcases hlv i hl with ⟨g, hl, _⟩ | g
      · rw [hle.ρ i (by omega)] at hb'; exact h.heap.fr i b hl hb' hF'
      · subst g; rw [hρn] at hb'
        rcases (hr b hb').2 with q | q
        · exact h.heap.fr id b hlive q hF'
        · have := h.heap.frz b hF'; omega
    · intro i j b hi hj hbi hbj
      rcases hlv i hi with ⟨gi, hi, ni⟩ | gi <;> rcases hlv j hj with ⟨gj, hj, nj⟩ | gj
      · rw [hle.ρ i (by omega)] at hbi; rw [hle.ρ j (by omega)] at hbj; exact h.heap.inj i j b hi hj hbi hbj
      · subst gj; rw [hρn] at hbj; rw [hle.ρ i (by omega)] at hbi
        rcases (hr b hbj).2 with q | q
        · exact absurd (h.heap.inj i id b hi hlive hbi q) ni
        · have := h.heap.lt i b hi hbi; omega
      · subst gi; rw [hρn] at hbi; rw [hle.ρ j (by omega)] at hbj
        rcases (hr b hbi).2 with q | q
        · exact absurd (h.heap.inj j id b hj hlive hbj q) nj
        · have := h.heap.lt j b hj hbj; omega
      · omega
    · intro b hb'; exact Nat.lt_of_lt_of_le (h.heap.frz b hb') hsz
  · exact ⟨h.base.1, by rw [List.length_append, List.length_set]; have := h.base.2; omega⟩
  · intro i hi
    have hb' := h.base
    have hi : i < s.base := hi
    obtain ⟨a1, a2, a3, a4, a5⟩ := h.old i hi
    refine ⟨fun hl => ?_, by rw [hle.ρ i (by omega)]; exact a2, by rw [hle.σ i (by omega)]; exact a3, by rw [hle.κ i (by omega)]; exact a4, by rw [hle.ω i (by omega)]; exact a5⟩
    rcases hlv i hl with ⟨g, hl, _⟩ | g
    · exact a1 hl
    · omega
  · intro i b hi hl hb'
    rcases hlv i hl with ⟨g, hl, _⟩ | g
    · rw [hle.ρ i (by omega)] at hb'; exact h.new i b hi hl hb'
    · subst g; rw [hρn] at hb'
      rcases (hr b hb').2 with q | q
      · exact how b q
      · exact .inl (Nat.le_trans h.keeps.size q)
  · exact h.F
  · exact h.Fnew
  · refine ⟨hos.trans h.keeps.os, htape.trans h.keeps.tape, hout.trans h.keeps.output, Nat.le_trans h.keeps.size hsz, fun b hb' hn => ?_, fun a ha => (hfz a (Nat.lt_of_lt_of_le ha h.keeps.size)).trans (h.keeps.frz a ha), fun d => Nat.le_trans (h.keeps.drawn d) (hdr d)⟩
    rw [hblk b (Nat.lt_of_lt_of_le hb' h.keeps.size) (fun e => by rcases how b e with q | q; · omega
                                                                  · exact hn q)]
    exact h.keeps.block b hb' hn
  · exact h.laid

end
end Go.Av

namespace Go.Av
variable [Drawn]

theorem foldSet (off : Nat) : ∀ (vs : List Value) (k : Nat) (cells : Array Value), off + k + vs.length ≤ cells.size →
    ((vs.zipIdx k).foldl (fun cs p => cs.setIfInBounds (off + p.2) p.1) cells).size = cells.size ∧
    ∀ q : Nat, ((vs.zipIdx k).foldl (fun cs p => cs.setIfInBounds (off + p.2) p.1) cells)[q]? = if q < off + k then cells[q]? else if q < off + k + vs.length then vs[q - (off + k)]? else cells[q]? := by
  intro vs
  induction vs with
  | nil =>
    intro k cells _
    refine ⟨rfl, fun q => ?_⟩
    simp only [List.zipIdx_nil, List.foldl_nil, List.length_nil, Nat.add_zero]
    split
    · rfl
    · rfl
  | cons v vs ih =>
    intro k cells hle
    simp only [List.length_cons] at hle
    obtain ⟨h1, h2⟩ := ih (k + 1) (cells.setIfInBounds (off + k) v) (by rw [Array.size_setIfInBounds]; omega)
    rw [List.zipIdx_cons, List.foldl_cons]
    refine ⟨by rw [h1, Array.size_setIfInBounds], fun q => ?_⟩
    rw [h2 q]
    simp only [List.length_cons]
    by_cases q1 : q < off + k
    · rw [if_pos (by omega), if_pos q1, Array.getElem?_setIfInBounds, if_neg (by omega)]
    · rw [if_neg q1]
      by_cases q2 : q = off + k
      · subst q2
        rw [if_pos (by omega), if_pos (by omega), Nat.sub_self, Array.getElem?_setIfInBounds, if_pos rfl, if_pos (by omega)]; rfl
      · rw [if_neg (by omega)]
        by_cases q3 : q < off + k + (vs.length + 1)
        · rw [if_pos (by omega), if_pos q3]
          rw [show q - (off + k) = (q - (off + (k + 1))) + 1 by omega, List.getElem?_cons_succ]
        · rw [if_neg (by omega), if_neg q3, Array.getElem?_setIfInBounds, if_neg (by omega)]

section
variable {E0 : Env} {H0 : List AObj} {w0 : World} {E : Env} {s s' : St} {a : Act} {w : World} {P : Program} {T : TT} {o : Oper}

/-- Cells that stand for abstract cells. -/
def CellsRep (E : Env) (w : World) (cs : List AV) (arr : Array Value) : Prop :=
  arr.size = cs.length ∧ ∀ (j : Nat) c, cs[j]? = some c → isCell c = true ∧ ∃ v, arr[j]? = some v ∧ Rep E w c v

theorem fill_sound (place : Nat → Option (Nat × Nat)) : ∀ (parts : List (Nat × Operand)) (cs cs' : List AV) (arr : Array Value), CellsRep E w cs arr →
    (∀ p ∈ parts, Rep E w (s.ev p.2) (a.eval p.2)) →
    fillA place cs (parts.map fun p => (p.1, s.ev p.2)) = some cs' → ∃ arr', Instr.fill place arr (parts.map fun p => (p.1, a.eval p.2)) = some arr' ∧ CellsRep E w cs' arr' := by
  intro parts
  induction parts with
  | nil =>
    intro cs cs' arr h _ hf
    simp only [List.map_nil, fillA, Option.some.injEq] at hf
    subst hf
    exact ⟨arr, rfl, h⟩
  | cons p parts ih =>
    intro cs cs' arr h hp hf
    simp only [List.map_cons, fillA, Option.bind_eq_some_iff] at hf
    obtain ⟨pl, hpl, hf⟩ := hf
    cases hb : (Nat.beq (cellsOf (s.ev p.2)).length pl.2 && Nat.ble (pl.1 + pl.2) cs.length && (cellsOf (s.ev p.2)).all (fun c => isCell c)) with
    | false => rw [hb] at hf; cases hf
    | true =>
      rw [hb, cond_true] at hf
      rw [Bool.and_eq_true, Bool.and_eq_true] at hb
      obtain ⟨⟨hb1, hb2⟩, hb3⟩ := hb
      have e1 := Nat.eq_of_beq_eq_true hb1
      have e2 := Nat.le_of_ble_eq_true hb2
      obtain ⟨c1, c2⟩ := cellsOf_rep (hp p (by simp)) hb3
      obtain ⟨h1, h2⟩ := h
      have hlist : (a.eval p.2).cells.toList.length = (cellsOf (s.ev p.2)).length := by simpa using c1
      obtain ⟨f1, f2⟩ := foldSet pl.1 (a.eval p.2).cells.toList 0 arr (by rw [hlist]; omega)
      have hfold : (a.eval p.2).cells.zipIdx.foldl (fun cs (x : Value × Nat) => cs.setIfInBounds (pl.1 + x.2) x.1) arr = ((a.eval p.2).cells.toList.zipIdx 0).foldl (fun cs p => cs.setIfInBounds (pl.1 + p.2) p.1) arr := by
        rw [← Array.foldl_toList, Array.toList_zipIdx]
      have hrep : CellsRep E w (splice cs pl.1 (cellsOf (s.ev p.2))) ((a.eval p.2).cells.zipIdx.foldl (fun cs (x : Value × Nat) => cs.setIfInBounds (pl.1 + x.2) x.1) arr) := by
        rw [hfold]
        refine ⟨by rw [f1, splice_length _ _ _ (by omega)]; exact h1, fun j c hj => ?_⟩
        rw [splice_get _ _ _ _ (by omega)] at hj
        rw [f2, Nat.add_zero, hlist]
        by_cases q1 : j < pl.1
        · rw [if_pos q1] at hj ⊢; exact h2 j c hj
        · rw [if_neg q1] at hj ⊢
          by_cases q2 : j < pl.1 + (cellsOf (s.ev p.2)).length
          · rw [if_pos q2] at hj ⊢
            obtain ⟨g1, u, g2, g3⟩ := c2 _ c hj
            exact ⟨g1, u, by simpa using g2, g3⟩
          · rw [if_neg q2] at hj ⊢; exact h2 j c hj
      obtain ⟨arr', g1, g2⟩ := ih _ cs' _ hrep (fun q hq => hp q (by simp [hq])) hf
      refine ⟨arr', ?_, g2⟩
      simp only [List.map_cons, Instr.fill, hpl]
      rw [if_neg (by
        simp only [Bool.or_eq_true, decide_eq_true_eq, not_or]
        constructor
        · simp only [ne_eq, Decidable.not_not]; omega
        · omega)]
      exact g1

theorem zero_cells {t : TypeId} {ts : TS} (hT : TOk P t ts) {z : Value} {i : TypeInfo} (hi : P.info? t = some i) (hz : i.zero = some z) : CellsRep E w ts.zero z.cells := by
  obtain ⟨_, ⟨i', d, z', hi', _, _, _, _, hz', h1, h2, h3⟩⟩ := hT
  rw [hi] at hi'; cases hi'
  rw [hz] at hz'; cases hz'
  refine ⟨h1, fun j c hj => ?_⟩
  obtain ⟨g1, g2⟩ := h3 j c hj
  have hjl : j < z.cells.size := by rw [h1]; exact get_lt hj
  refine ⟨isFree_isCell g1, z.cells[j], Array.getElem?_eq_getElem hjl, .fz _ _ ?_⟩
  have := (g2 E.F w).1
  simpa [Array.getD, hjl] using this

theorem agg_of_cells {cs : List AV} {arr : Array Value} (h : CellsRep E w cs arr) : Rep E w (.agg cs) (.agg arr) := by
  have := Rep.agg (E := E) (w := w) cs arr.toList (by simpa using h.1) (fun i c hc => by
    obtain ⟨_, v, h1, h2⟩ := h.2 i c hc
    have : i < arr.size := by rw [h.1]; exact get_lt hc
    simp only [List.getD, Array.getElem?_toList, h1]; exact h2)
  simpa using this

theorem run_sizeOf {t : TypeId} {ts : TS} (hT : TOk P t ts) : (sizeOf t).run P w = .ok ts.size w := by
  obtain ⟨_, i, d, z, hi, hu, hsz, _⟩ := hT
  simp [sizeOf, typeInfo, hi, hsz]

theorem mapM_places {fields : Array Field} {fs : List (Nat × TypeId)} (hT : TTOk P T) (h : fields.toList.map (fun f => (f.offset, f.type)) = fs) (hall : fs.all (fun p => (T p.2).isSome) = true) :
    ∃ places : Array (Nat × Nat), (fields.mapM fun f => do pure (f.offset, ← sizeOf f.type) : Sem (Array (Nat × Nat))).run P w = .ok places w ∧ ∀ i : Nat, places[i]? = placeOf T fs i := by
  have key : ∀ (fl : List Field), (∀ f ∈ fl, (T f.type).isSome = true) → ∃ pl : List (Nat × Nat), (fl.mapM fun f => do pure (f.offset, ← sizeOf f.type) : Sem (List (Nat × Nat))).run P w = .ok pl w ∧
      ∀ i : Nat, pl[i]? = placeOf T (fl.map fun f => (f.offset, f.type)) i := by
    intro fl
    induction fl with
    | nil => intro _; exact ⟨[], rfl, fun i => by simp [placeOf]⟩
    | cons f fl ih =>
      intro hf
      obtain ⟨pl, h1, h2⟩ := ih (fun g hg => hf g (by simp [hg]))
      obtain ⟨tf, htf⟩ := Option.isSome_iff_exists.1 (hf f (by simp))
      refine ⟨(f.offset, tf.size) :: pl, ?_, fun i => ?_⟩
      · simp only [List.mapM_cons, Sem.run_bind, run_sizeOf (hT _ tf htf), Result.andThen, Sem.run_pure, h1]
      · cases i with
        | zero => simp [placeOf, htf]
        | succ i => simpa [placeOf] using h2 i
  obtain ⟨pl, h1, h2⟩ := key fields.toList (fun f hf => by
    subst h
    have := List.all_eq_true.1 hall (f.offset, f.type) (List.mem_map.2 ⟨f, hf, rfl⟩)
    exact this)
  subst h
  refine ⟨pl.toArray, ?_, fun i => by rw [List.getElem?_toArray]; exact h2 i⟩
  rw [Array.mapM_eq_mapM_toList]
  simp only [Sem.run_map, h1, Result.andThen]

theorem opBuild_sound (hT : TTOk P T) (h : Models E0 H0 w0 E s a w) {t : TypeId} {ps : Array (Nat × Operand)} (ho : o.op = .build t ps)
    (hf : opBuild T s o.dst t (ps.toList.map fun p => (p.1, s.ev p.2)) = some s') (hc : s'.cond) : s.cond ∧ Done P o E0 H0 w0 s' a w := by
  simp only [opBuild, Option.bind_eq_some_iff] at hf
  obtain ⟨ts, hts, hf⟩ := hf
  have hTt := hT t ts hts
  obtain ⟨_, ⟨i, d, z, hi, hu, hsz, hby, hk, hz, _⟩⟩ := hT t ts hts
  have hzero := zero_cells (E := E) (w := w) hTt hi hz
  have hparts : (ps.map fun (x : Nat × Operand) => (x.1, a.eval x.2)).toList = ps.toList.map fun p => (p.1, a.eval p.2) := by simp
  cases hkk : ts.kind with
  | struct fs =>
    rw [hkk] at hk hf
    simp only at hf
    obtain ⟨fields, rfl, hfs⟩ := hk
    cases hall : fs.all (fun p => (T p.2).isSome) with
    | false => rw [hall] at hf; cases hf
    | true =>
      rw [hall, cond_true] at hf
      simp only [Option.bind_eq_some_iff] at hf
      obtain ⟨cs, hcs, hf⟩ := hf
      obtain ⟨places, hp1, hp2⟩ := mapM_places (w := w) hT hfs hall
      obtain ⟨arr', g1, g2⟩ := fill_sound (placeOf T fs) ps.toList ts.zero cs z.cells hzero (fun p _ => h.ev p.2) hcs
      refine ⟨cond_setd hf hc, Done.value h hf ((agg_of_cells g2)) ?_⟩
      have hpl : (fun x => places[x]?) = placeOf T fs := funext hp2
      simp only [execOp, ho, Instr.build, zeroValue, typeInfo, Sem.run_bind, run_program, Result.andThen, hi, hz, Sem.run_pure, run_underlying hu, hp1, hparts, hpl, g1]
  | array n e =>
    rw [hkk] at hk hf
    cases hk
    simp only [Option.bind_eq_some_iff] at hf
    obtain ⟨te, hte, cs, hcs, hf⟩ := hf
    obtain ⟨_, ⟨ie, _, _, hie, _, hies, _⟩⟩ := hT e te hte
    obtain ⟨arr', g1, g2⟩ := fill_sound (fun i => some (i * te.size, te.size)) ps.toList ts.zero cs z.cells hzero (fun p _ => h.ev p.2) hcs
    refine ⟨cond_setd hf hc, Done.value h hf ((agg_of_cells g2)) ?_⟩
    simp only [execOp, ho, Instr.build, zeroValue, typeInfo, sizeOf, Sem.run_bind, run_program, Result.andThen, hi, hz, Sem.run_pure, run_underlying hu, hie, hies, hparts, g1]
  | _ => rw [hkk] at hf; cases hf

end
end Go.Av

namespace Go.Av
variable [Drawn]

section
variable {E0 : Env} {H0 : List AObj} {w0 : World} {E : Env} {s s' : St} {a : Act} {w : World} {P : Program} {T : TT} {o : Oper}

theorem run_sliceBound (k : IntKind) (n : Int) (y : Nat) (code : BoundsCode) (h0 : 0 ≤ n) (h1 : n ≤ (y : Int)) : (Instr.sliceBound (.int k n) y code).run P w = .ok n.toNat w := by
  simp [Instr.sliceBound, asIntOf, h0, h1]

theorem loA_run (hm : Models E0 H0 w0 E s a w) {lo : Option Operand} {l : Int} (h : loA (lo.map s.ev) = some l) : (lo = none ∧ l = 0) ∨ ∃ x k, lo = some x ∧ a.eval x = .int k l := by
  cases lo with
  | none => simp only [Option.map_none, loA, Option.some.injEq] at h; exact .inl ⟨rfl, h.symm⟩
  | some x =>
    have hx := hm.ev x
    simp only [Option.map_some] at h
    cases hv : s.ev x with
    | int k n => rw [hv] at h hx; simp only [loA, Option.some.injEq] at h; subst h; exact .inr ⟨x, k, rfl, hx.int'⟩
    | _ => rw [hv] at h; cases h

theorem hiA_run (hm : Models E0 H0 w0 E s a w) {hi : Option Operand} {n : Nat} {l : Int} (h : hiA (hi.map s.ev) n = some l) : (hi = none ∧ l = n) ∨ ∃ x k, hi = some x ∧ a.eval x = .int k l := by
  cases hi with
  | none => simp only [Option.map_none, hiA, Option.some.injEq] at h; exact .inl ⟨rfl, h.symm⟩
  | some x =>
    have hx := hm.ev x
    simp only [Option.map_some] at h
    cases hv : s.ev x with
    | int k n => rw [hv] at h hx; simp only [hiA, Option.some.injEq] at h; subst h; exact .inr ⟨x, k, rfl, hx.int'⟩
    | _ => rw [hv] at h; cases h

theorem run_sliceBounds (isSlice : Bool) (len cap : Nat) (hlc : len ≤ cap) (lo hi : Option Operand) {l h : Int} (h1 : loA (lo.map s.ev) = some l) (h2 : hiA (hi.map s.ev) len = some h)
    (hm : Models E0 H0 w0 E s a w) (b1 : 0 ≤ l) (b2 : l ≤ h) (b3 : h ≤ (cap : Int)) :
    (Instr.sliceBounds isSlice len cap (lo.map a.eval) (hi.map a.eval) none).run P w = .ok (l.toNat, h.toNat, cap) w := by
  rcases loA_run hm h1 with ⟨rfl, rfl⟩ | ⟨x, k, rfl, hx⟩ <;> rcases hiA_run hm h2 with ⟨rfl, rfl⟩ | ⟨y, k', rfl, hy⟩
  · simp [Instr.sliceBounds]
  · simp only [Instr.sliceBounds, Option.map_none, Option.map_some, hy, Sem.run_bind, Sem.run_pure, Result.andThen, run_sliceBound k' h cap _ (by omega) (by omega)]; rfl
  · simp only [Instr.sliceBounds, Option.map_none, Option.map_some, hx, Sem.run_bind, Sem.run_pure, Result.andThen, run_sliceBound k l len _ (by omega) (by omega)]; rfl
  · simp only [Instr.sliceBounds, Option.map_some, hx, hy, Sem.run_bind, Sem.run_pure, Result.andThen, run_sliceBound k' h cap _ (by omega) (by omega), run_sliceBound k l h.toNat _ (by omega) (by omega)]

theorem opSlice_sound (hT : TTOk P T) (h : Models E0 H0 w0 E s a w) {t : TypeId} {x : Operand} {lo hi : Option Operand} (ho : o.op = .slice t x lo hi none)
    (hf : opSlice T s o.dst t (s.ev x) (lo.map s.ev) (hi.map s.ev) = some s') (hc : s'.cond) : s.cond ∧ Done P o E0 H0 w0 s' a w := by
  have hx := h.ev x
  simp only [opSlice, Option.bind_eq_some_iff] at hf
  obtain ⟨ts, hts, n, hn, l, hl, hh, hhh, hf⟩ := hf
  obtain ⟨_, ⟨i, d, z, hi', hu, hsz, hby, hk, _⟩⟩ := hT t ts hts
  cases hkk : ts.kind with
  | slice e =>
    rw [hkk] at hk hf
    cases hk
    have hex : (execOp a.eval o).run P w = ((Instr.slice t (a.eval x) (lo.map a.eval) (hi.map a.eval) none).run P w).andThen fun v w => .ok (.value v) w := by
      simp only [execOp, ho, Instr.sliceAt, Sem.run_bind, run_underlying hu, Result.andThen, Option.map_none, Sem.run_pure]
    cases hv : s.ev x with
    | list m row =>
      rw [hv] at hf hx hn
      simp only [lenA, Option.some.injEq] at hn; subst hn
      simp only [Option.bind_eq_some_iff] at hf
      obtain ⟨te, hte, hf⟩ := hf
      have hse := run_sizeOf (w := w) (hT e te hte)
      obtain ⟨hc1, ⟨b1, b2, b3⟩, hrl⟩ := need_setd hf hc
      refine ⟨hc1, ?_⟩
      generalize hax : a.eval x = ax at hx hex
      cases hx with
      | fz _ _ hx =>
        cases hx with
        | empty _ ao cap =>
          have hb := run_sliceBounds (P := P) true 0 cap (by omega) lo hi hl hhh h b1 b2 (by omega)
          have hz : hh.toNat - l.toNat = 0 := by omega
          refine Done.value (x := .slice (if cap = l.toNat then ao else ao.map (·.add (l.toNat * te.size))) (hh.toNat - l.toNat) (cap - l.toNat)) (h.cond _) hf ((.fz _ _ (RepF.fz ?_))) ?_
          · rw [hz]; exact .empty _ _ _
          · rw [hex]
            simp only [Instr.slice, Sem.run_bind, run_underlying hu, Result.andThen, hb, hse, Sem.run_pure]
        | list _ _ b off cap sz vs hF hcap hsz' hcell hfr hr =>
          have hb := run_sliceBounds (P := P) true m cap hcap lo hi hl hhh h b1 b2 (by omega)
          refine Done.value (x := .slice (if cap = l.toNat then some ⟨b, off, none⟩ else (some (⟨b, off, none⟩ : Addr)).map (·.add (l.toNat * te.size))) (hh.toNat - l.toNat) (cap - l.toNat)) (h.cond _) hf ((.fz _ _ (RepF.fz ?_))) ?_
          · by_cases hz : hh.toNat - l.toNat = 0
            · rw [hz]; exact .empty _ _ _
            · have hlm : l.toNat < m := by omega
              rw [if_neg (by omega)]
              have hsz2 : sz = te.size := (hsz' _ hlm).symm.trans (hrl _ hlm)
              subst hsz2
              simp only [Option.map_some, addr_add]
              refine .list _ _ b (off + l.toNat * te.size) (cap - l.toNat) te.size (fun i j => vs (l.toNat + i) j) hF (by omega) (fun i hi => hsz' _ (by omega)) (fun i j c hi hj => ?_) (fun i j c hi hj => hfr _ j c (by omega) hj) (fun i j c hi hj => hr _ j c (by omega) hj)
              rw [show off + l.toNat * te.size + (i * te.size + j) = off + ((l.toNat + i) * te.size + j) by rw [Nat.add_mul]; omega]
              exact hcell _ j c (by omega) hj
          · rw [hex]
            simp only [Instr.slice, Sem.run_bind, run_underlying hu, Result.andThen, hb, hse, Sem.run_pure]
    | sl id b m =>
      rw [hv] at hf hx hn
      simp only [lenA, Option.some.injEq] at hn; subst hn
      simp only [Option.bind_eq_some_iff] at hf
      obtain ⟨te, hte, hf⟩ := hf
      have hse := run_sizeOf (w := w) (hT e te hte)
      cases hid : s.hp[id]? with
      | none => rw [hid] at hf; cases hf
      | some ob =>
        cases ob with
        | arr sz nn row =>
          rw [hid] at hf
          simp only at hf
          cases hbq : Nat.beq sz te.size with
          | false => rw [hbq] at hf; cases hf
          | true =>
            rw [hbq, cond_true] at hf
            have hsz2 := Nat.eq_of_beq_eq_true hbq
            obtain ⟨hc1, b1, b2, b3⟩ := need_setd hf hc
            refine ⟨hc1, ?_⟩
            obtain ⟨g1, g2, g3, g4, g5, g6⟩ := h.heap.obj id _ hid
            generalize hax : a.eval x = ax at hx hex
            cases hx with
            | fz _ _ hx => cases hx
            | sl _ _ _ av hi2 hle ha =>
              have hb := run_sliceBounds (P := P) true m (E.κ id - b) (by omega) lo hi hl hhh h b1 b2 (by omega)
              have hrep := Rep.sl (E := E) (w := w) id (b + l.toNat) (hh.toNat - l.toNat) (if E.κ id - b = l.toNat then av else av.map (·.add (l.toNat * te.size))) hi2 (by omega) (fun hlt => by
                rw [if_neg (by omega), ha (by omega)]
                cases E.ρ id with
                | none => rfl
                | some bl => simp only [Option.map_some, addr_add, g1, hsz2, Nat.add_mul, Nat.add_assoc])
              refine Done.value (h.cond _) hf (hrep) ?_
              rw [hex]
              simp only [Instr.slice, Sem.run_bind, run_underlying hu, Result.andThen, hb, hse, Sem.run_pure, Nat.sub_sub]
        | _ => rw [hid] at hf; cases hf
    | nilsl =>
      rw [hv] at hf hx hn
      simp only [lenA, Option.some.injEq] at hn; subst hn
      simp only [Option.bind_eq_some_iff] at hf
      obtain ⟨te, hte, hf⟩ := hf
      have hse := run_sizeOf (w := w) (hT e te hte)
      obtain ⟨hc1, rfl, rfl⟩ := need_setd hf hc
      refine ⟨hc1, ?_⟩
      generalize hax : a.eval x = ax at hx hex
      cases hx with
      | fz _ _ hx =>
        cases hx
        have hb := run_sliceBounds (P := P) true 0 0 (by omega) lo hi hl hhh h (by omega) (by omega) (by omega)
        refine Done.value (x := .slice none 0 0) (h.cond _) hf ((.fz _ _ .nilsl)) ?_
        rw [hex]
        simp only [Instr.slice, Sem.run_bind, run_underlying hu, Result.andThen, hb, hse, Sem.run_pure]
        rfl
    | _ => rw [hv] at hf; cases hf
  | str =>
    rw [hkk] at hk hf
    cases hk
    cases hv : s.ev x with
    | str b =>
      rw [hv] at hf hx hn
      simp only [lenA, Option.some.injEq] at hn; subst hn
      obtain ⟨hc1, b1, b2, b3⟩ := need_setd hf hc
      have hb := run_sliceBounds (P := P) false b.size b.size (by omega) lo hi hl hhh h b1 b2 (by omega)
      refine ⟨hc1, Done.value (h.cond _) hf (Rep.mk_str _) ?_⟩
      simp only [execOp, ho, Instr.sliceAt, Instr.slice, Sem.run_bind, run_underlying hu, Result.andThen, Option.map_none, Sem.run_pure, hx.str', Option.isSome_none, Bool.false_eq_true, if_false, hb]
    | _ => rw [hv] at hf; cases hf
  | _ => rw [hkk] at hf; cases hf


theorem run_sliceBounds3 (len cap : Nat) (lo : Option Operand) {l h m : Int} {kh km : IntKind} (h1 : loA (lo.map s.ev) = some l)
    (hm : Models E0 H0 w0 E s a w) (b1 : 0 ≤ l) (b2 : l ≤ h) (b3 : h ≤ m) (b4 : m ≤ (cap : Int)) :
    (Instr.sliceBounds true len cap (lo.map a.eval) (some (.int kh h)) (some (.int km m))).run P w = .ok (l.toNat, h.toNat, m.toNat) w := by
  rcases loA_run hm h1 with ⟨rfl, rfl⟩ | ⟨x, k, rfl, hx⟩
  · simp only [Instr.sliceBounds, Option.map_none, Sem.run_bind, Sem.run_pure, Result.andThen, run_sliceBound km m cap _ (by omega) (by omega), run_sliceBound kh h m.toNat _ (by omega) (by omega)]; rfl
  · simp only [Instr.sliceBounds, Option.map_some, hx, Sem.run_bind, Sem.run_pure, Result.andThen, run_sliceBound km m cap _ (by omega) (by omega), run_sliceBound kh h m.toNat _ (by omega) (by omega), run_sliceBound k l h.toNat _ (by omega) (by omega)]

theorem opSlice3_sound (hT : TTOk P T) (h : Models E0 H0 w0 E s a w) {t : TypeId} {x hi mx : Operand} {lo : Option Operand} (ho : o.op = .slice t x lo (some hi) (some mx))
    (hf : opSlice3 T s o.dst t (s.ev x) (lo.map s.ev) (s.ev hi) (s.ev mx) = some s') (hc : s'.cond) : s.cond ∧ Done P o E0 H0 w0 s' a w := by
  have hx := h.ev x
  have hh := h.ev hi
  have hm := h.ev mx
  simp only [opSlice3, Option.bind_eq_some_iff] at hf
  obtain ⟨ts, hts, n, hn, l, hl, hf⟩ := hf
  obtain ⟨_, ⟨i, d, z, hi', hu, hsz, hby, hk, _⟩⟩ := hT t ts hts
  have core : ∀ (e te : TypeId) (tes : TS), d = .slice e → T e = some tes → ∀ (kh km : IntKind) (vh vm : Int), a.eval hi = .int kh vh → a.eval mx = .int km vm → ∀ (ao : Option Addr) (len cap : Nat), a.eval x = .slice ao len cap → n ≤ cap →
      (s.need (0 ≤ l ∧ l ≤ vh ∧ vh ≤ vm ∧ vm ≤ (n : Int))).setd o.dst .undef = some s' → s.cond ∧ Done P o E0 H0 w0 s' a w := by
    intro e te tes hd hte kh km vh vm e1 e2 ao len cap e3 hcap hf
    subst hd
    obtain ⟨hc1, b1, b2, b3, b4⟩ := need_setd hf hc
    refine ⟨hc1, ?_⟩
    have hse := run_sizeOf (w := w) (hT e tes hte)
    have hb := run_sliceBounds3 (P := P) (kh := kh) (km := km) len cap lo hl h b1 b2 b3 (show vm ≤ (cap : Int) by omega)
    have hex : (execOp a.eval o).run P w = ((Instr.slice t (a.eval x) (lo.map a.eval) (some (a.eval hi)) (some (a.eval mx))).run P w).andThen fun v w => .ok (.value v) w := by
      simp only [execOp, ho, Instr.sliceAt, Sem.run_bind, run_underlying hu, Result.andThen, Option.map_some, Sem.run_pure]
    refine Done.value (x := .slice (if vm.toNat = l.toNat then ao else ao.map (·.add (l.toNat * tes.size))) (vh.toNat - l.toNat) (vm.toNat - l.toNat)) (h.cond _) hf (.undef _) ?_
    · rw [hex, e1, e2, e3]
      simp only [Instr.slice, Sem.run_bind, run_underlying hu, Result.andThen, hb, hse, Sem.run_pure]
  split at hf
  · rename_i e m row kh vh km vm hkk hvx hvh hvm
    rw [hkk] at hk; cases hk
    simp only [Option.bind_eq_some_iff] at hf
    obtain ⟨te, hte, hf⟩ := hf
    rw [hvx] at hx hn; rw [hvh] at hh; rw [hvm] at hm
    simp only [lenA, Option.some.injEq] at hn; subst hn
    generalize hax : a.eval x = ax at hx
    cases hx with
    | fz _ _ hx =>
      cases hx with
      | empty _ ao cap => exact core e 0 te rfl hte kh km vh vm hh.int' hm.int' ao 0 cap hax (by omega) hf
      | list _ _ b off cap sz vs hF hcap hsz' hcell hfr hr => exact core e 0 te rfl hte kh km vh vm hh.int' hm.int' _ m cap hax hcap hf
  · rename_i e id b m kh vh km vm hkk hvx hvh hvm
    rw [hkk] at hk; cases hk
    simp only [Option.bind_eq_some_iff] at hf
    obtain ⟨te, hte, hf⟩ := hf
    rw [hvx] at hx hn; rw [hvh] at hh; rw [hvm] at hm
    simp only [lenA, Option.some.injEq] at hn; subst hn
    generalize hax : a.eval x = ax at hx
    cases hx with
    | fz _ _ hx => cases hx
    | sl _ _ _ av hi2 hle ha => exact core e 0 te rfl hte kh km vh vm hh.int' hm.int' _ m _ hax (by omega) hf
  · cases hf

end
end Go.Av

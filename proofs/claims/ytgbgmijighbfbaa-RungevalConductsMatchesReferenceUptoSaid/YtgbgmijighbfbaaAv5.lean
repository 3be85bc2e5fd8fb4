/- The Av framework: operations on values. No law is proved here. -/
import Derived.Test.YtgbgmijighbfbaaAv4
set_option linter.unusedSimpArgs false
set_option linter.unusedVariables false
namespace Go.Av

section
variable {E0 : Env} {H0 : List AObj} {w0 : World} {E : Env} {s s' : St} {a : Act} {w : World} {P : Program} {T : TT} {o : Oper}

theorem ofNat_toNat {i : Int} {n : Nat} (h0 : 0 ≤ i) (h1 : i < (n : Int)) : i.toNat < n := by omega

theorem opIndexAddr_sound (hT : TTOk P T) (h : Models E0 H0 w0 E s a w) {t : TypeId} {x y : Operand} (ho : o.op = .indexAddr t x y)
    (hf : opIndexAddr T s o.dst t (s.ev x) (s.ev y) = some s') (hc : s'.cond) : s.cond ∧ Done P o E0 H0 w0 s' a w := by
  simp only [opIndexAddr, Option.bind_eq_some_iff] at hf
  obtain ⟨ts, hts, hf⟩ := hf
  obtain ⟨⟨i, d, z, hi, hu, hsz, hby, hk, _⟩⟩ := hT t ts hts
  have hy := h.ev y
  have hx := h.ev x
  cases hvy : s.ev y with
  | int k n =>
    rw [hvy] at hf hy
    have hay := hy.int'
    cases hkk : ts.kind with
    | slice e =>
      rw [hkk] at hk hf
      cases hk
      simp only [Option.bind_eq_some_iff] at hf
      obtain ⟨te, hte, hf⟩ := hf
      obtain ⟨⟨ie, _, _, hie, _, hies, _⟩⟩ := hT e te hte
      cases hvx : s.ev x with
      | list len row =>
        rw [hvx] at hf hx
        obtain ⟨hc1, ⟨hb1, hb2⟩, hlen⟩ := need_setd hf hc
        refine ⟨hc1, ?_⟩
        have hlt := ofNat_toNat hb1 hb2
        generalize hax : a.eval x = ax at hx
        cases hx with
        | fz _ _ hx =>
          cases hx with
          | empty _ _ _ => omega
          | list _ _ b off cap sz vs hF hcap hsz' hcell hfr hr =>
            have hsz2 : sz = te.size := (hsz' _ hlt).symm.trans hlen
            subst hsz2
            refine Done.value (h.cond _) hf ((.fz _ _ (.fptr _ b (off + n.toNat * te.size) (fun j => vs n.toNat j) hF ?_ ?_ ?_))) ?_
            · intro j c hj; rw [Nat.add_assoc]; exact hcell _ j c hlt hj
            · intro j c hj; exact hfr _ j c hlt hj
            · intro j c hj; exact hr _ j c hlt hj
            · simp [execOp, ho, hax, hay, Instr.indexAt, asIntOf, run_underlying hu, hb1, hb2, sizeOf, typeInfo, hie, hies, addr_add]
      | sl id b len =>
        rw [hvx] at hf hx
        simp only at hf
        cases hid : s.hp[id]? with
        | none => rw [hid] at hf; cases hf
        | some ob =>
          cases ob with
          | arr sz nn row =>
            rw [hid] at hf
            simp only at hf
            cases hbq : Nat.beq sz te.size with
            | false => rw [hbq] at hf; cases hf
            | true =>
              rw [hbq, cond_true] at hf
              have hsz2 := Nat.eq_of_beq_eq_true hbq
              obtain ⟨hc1, hb1, hb2⟩ := need_setd hf hc
              refine ⟨hc1, ?_⟩
              obtain ⟨g1, g2, g3, g4, g5, g6⟩ := h.heap.obj id _ hid
              generalize hax : a.eval x = ax at hx
              cases hx with
              | fz _ _ hx => cases hx
              | sl _ _ _ av hi' hle ha =>
                cases hρ : E.ρ id with
                | none => rw [hρ] at g6; omega
                | some blk =>
                  have ha' := ha (by omega)
                  rw [ha'] at hax
                  refine Done.value (h.cond _) hf ((.hptr id (b + n.toNat) 0 blk hi' hρ)) ?_
                  rw [hρ] at hax
                  have e : (E.ω id + b) * E.σ id + n.toNat * te.size = (E.ω id + (b + n.toNat)) * E.σ id + 0 := by
                    rw [g1, hsz2, Nat.add_zero, ← Nat.add_mul, Nat.add_assoc]
                  simp [execOp, ho, hax, hay, Instr.indexAt, asIntOf, run_underlying hu, hb1, hb2, sizeOf, typeInfo, hie, hies, addr_add, e]
          | _ => rw [hid] at hf; cases hf
      | _ => rw [hvx] at hf; cases hf
    | array len e =>
      rw [hkk] at hk hf
      cases hk
      cases n with
      | negSucc n => cases hf
      | ofNat n =>
        simp only [Option.bind_eq_some_iff] at hf
        obtain ⟨te, hte, hf⟩ := hf
        obtain ⟨⟨ie, _, _, hie, _, hies, _⟩⟩ := hT e te hte
        cases hlt : Nat.blt n len with
        | false => rw [hlt] at hf; cases hf
        | true =>
          rw [hlt, cond_true] at hf
          have hlt' : n < len := by
            have : n + 1 ≤ len := by simpa [Nat.blt] using hlt
            omega
          have run : ∀ b off, a.eval x = .pointer (some ⟨b, off, none⟩) → (execOp a.eval o).run P w = .ok (.value (.pointer (some ⟨b, off + n * te.size, none⟩))) w := by
            intro b off hax
            simp [execOp, ho, hax, hay, Instr.indexAt, Instr.sureAddr, asIntOf, run_underlying hu, hlt', sizeOf, typeInfo, hie, hies, addr_add]
          cases hvx : s.ev x with
          | hptr id idx off =>
            rw [hvx] at hf hx
            refine ⟨cond_setd hf hc, ?_⟩
            generalize hax : a.eval x = ax at hx
            cases hx with
            | fz _ _ hx => cases hx
            | hptr _ _ _ b hi' hb =>
              exact Done.value h hf (.hptr id idx (off + n * te.size) b hi' hb) (by rw [run b _ hax, Nat.add_assoc])
          | fptr cs =>
            rw [hvx] at hf hx
            refine ⟨cond_setd hf hc, ?_⟩
            generalize hax : a.eval x = ax at hx
            cases hx with
            | fz _ _ hx =>
              cases hx with
              | fptr _ b off vs hF hcell hfr hr =>
                refine Done.value h hf ((.fz _ _ (.fptr _ b (off + n * te.size) (fun j => vs (n * te.size + j)) hF ?_ ?_ ?_))) (run b off hax)
                · intro j c hj; rw [List.getElem?_drop] at hj; rw [Nat.add_assoc]; exact hcell _ c hj
                · intro j c hj; rw [List.getElem?_drop] at hj; exact hfr _ c hj
                · intro j c hj; rw [List.getElem?_drop] at hj; exact hr _ c hj
          | _ => rw [hvx] at hf; cases hf
    | _ => rw [hkk] at hf; cases hf
  | _ => rw [hvy] at hf; cases hkk : ts.kind <;> rw [hkk] at hf <;> cases hf

theorem opIndex_sound (hT : TTOk P T) (h : Models E0 H0 w0 E s a w) {t : TypeId} {x y : Operand} (ho : o.op = .index t x y)
    (hf : opIndex T s o.dst t (s.ev x) (s.ev y) = some s') (hc : s'.cond) : s.cond ∧ Done P o E0 H0 w0 s' a w := by
  simp only [opIndex, Option.bind_eq_some_iff] at hf
  obtain ⟨ts, hts, hf⟩ := hf
  obtain ⟨⟨i, d, z, hi, hu, hsz, hby, hk, _⟩⟩ := hT t ts hts
  have hy := h.ev y
  have hx := h.ev x
  cases hkk : ts.kind with
  | array len e =>
    rw [hkk] at hk hf
    cases hk
    cases hvx : s.ev x with
    | agg cs =>
      cases hvy : s.ev y with
      | int k n =>
        rw [hvx] at hf hx
        rw [hvy] at hf hy
        have hay := hy.int'
        simp only [Option.bind_eq_some_iff] at hf
        obtain ⟨te, hte, hf⟩ := hf
        obtain ⟨⟨ie, _, _, hie, _, hies, _⟩⟩ := hT e te hte
        generalize hax : a.eval x = ax at hx
        cases hx with
        | fz _ _ hx => cases hx
        | agg _ vs hn hr =>
          cases hagg : te.isAgg with
          | true =>
            rw [hagg, cond_true] at hf
            obtain ⟨hc1, ⟨hb1, hb2⟩, hlen⟩ := need_setd hf hc
            refine ⟨hc1, ?_⟩
            have hlt := ofNat_toNat hb1 hb2
            have hle : n.toNat * te.size + te.size ≤ cs.length := by
              have : (n.toNat + 1) * te.size ≤ len * te.size := Nat.mul_le_mul_right _ hlt
              rw [Nat.add_mul, Nat.one_mul] at this
              omega
            have hpart := part_run (w := w) (hT e te hte) vs.toArray (n.toNat * te.size) (fun hh => by rw [hagg] at hh; cases hh)
            rw [hagg] at hpart
            simp only [if_true] at hpart
            refine Done.value (x := .agg (vs.toArray.extract (n.toNat * te.size) (n.toNat * te.size + te.size))) (h.cond _) hf (?_) ?_
            · have e : (vs.toArray.extract (n.toNat * te.size) (n.toNat * te.size + te.size)) = ((vs.drop (n.toNat * te.size)).take te.size).toArray := by
                simp [List.extract_toArray, List.extract_eq_take_drop]
              rw [e]
              refine Rep.agg _ _ (by simp; omega) fun j c hj => ?_
              have hj2 : j < te.size ∧ cs[n.toNat * te.size + j]? = some c := by
                rw [List.getElem?_take] at hj
                split at hj
                · rw [List.getElem?_drop] at hj; exact ⟨by assumption, hj⟩
                · cases hj
              have := hr _ c hj2.2
              simp only [List.getD, List.getElem?_take, hj2.1, if_true, List.getElem?_drop] at this ⊢
              exact this
            · simp [execOp, ho, hax, hay, Instr.index, asIntOf, run_underlying hu, hb1, hb2, sizeOf, typeInfo, hie, hies, hpart]
          | false =>
            rw [hagg, cond_false] at hf
            cases hq : Nat.beq te.size 1 with
            | false => rw [hq] at hf; cases hf
            | true =>
              rw [hq, cond_true] at hf
              have h1 := Nat.eq_of_beq_eq_true hq
              obtain ⟨hc1, ⟨hb1, hb2⟩, hlen⟩ := need_setd hf hc
              refine ⟨hc1, ?_⟩
              have hlt := ofNat_toNat hb1 hb2
              have hpart := part_run (w := w) (hT e te hte) vs.toArray (n.toNat * te.size) (fun _ => by rw [h1]; simp; omega)
              rw [hagg] at hpart
              simp only [Bool.false_eq_true, if_false] at hpart
              refine Done.value (x := vs.toArray.getD (n.toNat * te.size) default) (h.cond _) hf (?_) ?_
              · have := hr n.toNat cs[n.toNat] (List.getElem?_eq_getElem (by omega))
                have e2 : cs.getD n.toNat .undef = cs[n.toNat] := by simp [List.getD, show n.toNat < cs.length by omega]
                have e3 : vs.toArray.getD (n.toNat * te.size) default = vs.getD n.toNat default := by
                  rw [h1]; simp [Array.getD, List.getD, show n.toNat < vs.length by omega]
                rw [e2, e3]; exact this
              · simp only [execOp, ho, hax, hay, Instr.index, asIntOf, Sem.run_bind, Sem.run_pure, Result.andThen, run_underlying hu, hb1, hb2, and_self, if_true, sizeOf, typeInfo, run_program, hie, hies, hpart]
      | _ => rw [hvx, hvy] at hf; cases hf
    | _ => rw [hvx] at hf; cases hf
  | str =>
    rw [hkk] at hk hf
    cases hk
    cases hvx : s.ev x with
    | str b =>
      cases hvy : s.ev y with
      | int k n =>
        rw [hvx] at hf hx
        rw [hvy] at hf hy
        obtain ⟨hc1, hb1, hb2⟩ := need_setd hf hc
        refine ⟨hc1, Done.value (h.cond _) hf (Rep.mk_int _ _) ?_⟩
        have hlt := ofNat_toNat hb1 hb2
        have hget : b[n.toNat]? = some (b.data.toList.getD n.toNat 0) := by
          have hl : n.toNat < b.data.toList.length := by simpa using hlt
          rw [List.getD, List.getElem?_eq_getElem hl]
          rw [getElem?_pos b n.toNat hlt]
          rfl
        simp [execOp, ho, hx.str', hy.int', Instr.index, asIntOf, run_underlying hu, hb1, hget]
      | _ => rw [hvx, hvy] at hf; cases hf
    | _ => rw [hvx] at hf; cases hf
  | _ => rw [hkk] at hf; cases hf

theorem opLen_sound (hT : TTOk P T) (h : Models E0 H0 w0 E s a w) {t : TypeId} {x : Operand} {c : Call} (ho : o.op = .call c)
    (h1 : c.callee = .builtin .len) (h2 : c.args.toList = [x]) (h3 : c.argTypes.toList = [t])
    (hf : opLen T s o.dst t (s.ev x) = some s') (hc : s'.cond) : s.cond ∧ Done P o E0 H0 w0 s' a w := by
  have e2 : c.args = #[x] := by rw [← Array.toArray_toList (xs := c.args), h2]
  have e3 : c.argTypes = #[t] := by rw [← Array.toArray_toList (xs := c.argTypes), h3]
  simp only [opLen, Option.bind_eq_some_iff] at hf
  obtain ⟨ts, hts, hf⟩ := hf
  obtain ⟨⟨i, d, z, hi, hu, hsz, hby, hk, _⟩⟩ := hT t ts hts
  have hx := h.ev x
  cases hkk : ts.kind with
  | slice e =>
    rw [hkk] at hk hf
    cases hk
    cases hvx : s.ev x with
    | list n row =>
      rw [hvx] at hf hx
      refine ⟨cond_setd hf hc, Done.value h hf (Rep.mk_int _ _) ?_⟩
      generalize hax : a.eval x = ax at hx
      cases hx with
      | fz _ _ hx => cases hx <;> simp [execOp, ho, resolve, h1, e2, e3, hax, invoke, builtin, Builtin.len_, run_underlying hu, goInt]
    | sl id b n =>
      rw [hvx] at hf hx
      refine ⟨cond_setd hf hc, Done.value h hf (Rep.mk_int _ _) ?_⟩
      generalize hax : a.eval x = ax at hx
      cases hx with
      | fz _ _ hx => cases hx
      | sl _ _ _ _ _ _ _ => simp [execOp, ho, resolve, h1, e2, e3, hax, invoke, builtin, Builtin.len_, run_underlying hu, goInt]
    | nilsl =>
      rw [hvx] at hf hx
      refine ⟨cond_setd hf hc, Done.value h hf (Rep.mk_int _ _) ?_⟩
      generalize hax : a.eval x = ax at hx
      cases hx with
      | fz _ _ hx => cases hx; simp [execOp, ho, resolve, h1, e2, e3, hax, invoke, builtin, Builtin.len_, run_underlying hu, goInt]
    | zsl =>
      rw [hvx] at hf hx
      refine ⟨cond_setd hf hc, Done.value h hf (Rep.mk_int _ _) ?_⟩
      generalize hax : a.eval x = ax at hx
      cases hx with
      | fz _ _ hx => cases hx; simp [execOp, ho, resolve, h1, e2, e3, hax, invoke, builtin, Builtin.len_, run_underlying hu, goInt]
    | _ => rw [hvx] at hf; cases hf
  | str =>
    rw [hkk] at hk hf
    cases hk
    cases hvx : s.ev x with
    | str b =>
      rw [hvx] at hf hx
      refine ⟨cond_setd hf hc, Done.value h hf (Rep.mk_int _ _) ?_⟩
      simp [execOp, ho, resolve, h1, e2, e3, hx.str', invoke, builtin, Builtin.len_, run_underlying hu, goInt]
    | _ => rw [hvx] at hf; cases hf
  | array n e =>
    rw [hkk] at hk hf
    cases hk
    refine ⟨cond_setd hf hc, Done.value h hf (Rep.mk_int _ _) ?_⟩
    simp [execOp, ho, resolve, h1, e2, e3, invoke, builtin, Builtin.len_, run_underlying hu, goInt]
  | map k e =>
    rw [hkk] at hk hf
    cases hk
    cases hvx : s.ev x with
    | nilmap =>
      rw [hvx] at hf hx
      refine ⟨cond_setd hf hc, Done.value h hf (Rep.mk_int _ _) ?_⟩
      generalize hax : a.eval x = ax at hx
      cases hx with
      | fz _ _ hx => cases hx; simp [execOp, ho, resolve, h1, e2, e3, hax, invoke, builtin, Builtin.len_, run_underlying hu, goInt]
    | mp id =>
      rw [hvx] at hf hx
      simp only at hf
      cases hid : s.hp[id]? with
      | none => rw [hid] at hf; cases hf
      | some ob =>
        cases ob with
        | map es =>
          rw [hid] at hf
          refine ⟨cond_setd hf hc, Done.value h hf (Rep.mk_int _ _) ?_⟩
          obtain ⟨b, mes, clock, g0, g1, g2, g3⟩ := h.heap.obj id _ hid
          generalize hax : a.eval x = ax at hx
          cases hx with
          | fz _ _ hx => cases hx
          | mp _ b' _ hb' =>
            rw [g0] at hb'; cases hb'
            simp [execOp, ho, resolve, h1, e2, e3, hax, invoke, builtin, Builtin.len_, run_underlying hu, goInt, getObj, Sem.run, g1, g2]
        | _ => rw [hid] at hf; cases hf
    | _ => rw [hvx] at hf; cases hf
  | _ => rw [hkk] at hf; cases hf

theorem equal_bool {t : TypeId} (hu : P.underlying t = some .bool) (a b : Bool) : (Op.equal t (.bool a) (.bool b)).run P w = .ok (a == b) w := by
  have : ∀ d, (Op.equalIn (d + 1) t (.bool a) (.bool b)).run P w = .ok (a == b) w := by intro d; simp [Op.equalIn, run_underlying hu]
  exact this 9999

theorem run_eql_bool {t : TypeId} (hu : P.underlying t = some .bool) (a b : Bool) : (binOp .eql t (.bool a) (.bool b)).run P w = .ok (.bool (a == b)) w := by
  simp only [binOp, Sem.run_bind, equal_bool hu, Result.andThen, Sem.run_pure]

theorem run_neq_bool {t : TypeId} (hu : P.underlying t = some .bool) (a b : Bool) : (binOp .neq t (.bool a) (.bool b)).run P w = .ok (.bool (!(a == b))) w := by
  simp only [binOp, Sem.run_bind, equal_bool hu, Result.andThen, Sem.run_pure]

theorem opBin_sound (hT : TTOk P T) (h : Models E0 H0 w0 E s a w) {op : BinOp} {t t' : TypeId} {x y : Operand} (ho : o.op = .binOp op t x y t')
    (hf : opBin T s o.dst op t (s.ev x) (s.ev y) = some s') (hc : s'.cond) : s.cond ∧ Done P o E0 H0 w0 s' a w := by
  have hx := h.ev x
  have hy := h.ev y
  unfold opBin at hf
  split at hf
  · rename_i k n k' m hvx hvy
    rw [hvx] at hx; rw [hvy] at hy
    cases hkq : decide (k = k') with
    | false => rw [hkq] at hf; cases hf
    | true =>
      rw [hkq, cond_true] at hf
      have hk : k = k' := of_decide_eq_true hkq
      subst hk
      simp only [Option.bind_eq_some_iff] at hf
      obtain ⟨r, hr, hf⟩ := hf
      obtain ⟨hc1, hc2⟩ := need_setd hf hc
      refine ⟨hc1, ?_⟩
      cases op <;> simp only [intBin, Option.some.injEq, reduceCtorEq] at hr <;> subst hr
      all_goals first
        | (refine Done.value (h.cond _) hf (Rep.mk_int _ _) ?_; simp only at hc2; simp [execOp, ho, hx.int', hy.int', eqGuard, binOp, Op.intArith, Op.intDiv, hc2]; done)
        | (refine Done.value (h.cond _) hf (Rep.mk_bool _) ?_; simp [execOp, ho, hx.int', hy.int', eqGuard, binOp, Op.intCmp]; done)
  · rename_i n m hvx hvy
    rw [hvx] at hx; rw [hvy] at hy
    simp only [Option.bind_eq_some_iff] at hf
    obtain ⟨r, hr, hf⟩ := hf
    obtain ⟨hc1, hc2⟩ := need_setd hf hc
    refine ⟨hc1, ?_⟩
    cases op <;> simp only [strBin, Option.some.injEq, reduceCtorEq] at hr <;> subst hr
    all_goals first
      | (refine Done.value (h.cond _) hf (Rep.mk_bool _) ?_; simp [execOp, ho, hx.str', hy.str', eqGuard, binOp, Op.stringOp]; done)
      | (refine Done.value (h.cond _) hf (Rep.mk_str _) ?_
         have hc3 : ¬ (9223372036854775807 < ((n.size : Int) + (m.size : Int))) := by simp only at hc2; omega
         simp [execOp, ho, hx.str', hy.str', eqGuard, binOp, Op.stringOp, IntKind.max, IntKind.signed, IntKind.bits, hc3]; done)
  · rename_i n m hvx hvy
    rw [hvx] at hx; rw [hvy] at hy
    simp only [Option.bind_eq_some_iff] at hf
    obtain ⟨ts, hts, hf⟩ := hf
    obtain ⟨⟨i, d, z, hi, hu, hsz, hby, hk, _⟩⟩ := hT t ts hts
    split at hf
    · rename_i hkk
      rw [hkk] at hk; cases hk
      refine ⟨cond_setd hf hc, Done.value h hf (Rep.mk_bool _) ?_⟩
      simp [execOp, ho, hx.bool', hy.bool', eqGuard, run_eql_bool hu]
    · rename_i hkk
      rw [hkk] at hk; cases hk
      refine ⟨cond_setd hf hc, Done.value h hf (Rep.mk_bool _) ?_⟩
      simp [execOp, ho, hx.bool', hy.bool', eqGuard, run_neq_bool hu]
    · cases hf
  · cases hf

theorem opUn_sound (h : Models E0 H0 w0 E s a w) {op : UnOp} {t : TypeId} {x : Operand} (ho : o.op = .unOp op t x)
    (hf : opUn s o.dst op (s.ev x) = some s') (hc : s'.cond) : s.cond ∧ Done P o E0 H0 w0 s' a w := by
  have hx := h.ev x
  unfold opUn at hf
  split at hf
  · rename_i b hv
    rw [hv] at hx
    exact ⟨cond_setd hf hc, Done.value h hf (Rep.mk_bool _) (by simp [execOp, ho, hx.bool', Op.unary])⟩
  · rename_i k n hv
    rw [hv] at hx
    exact ⟨cond_setd hf hc, Done.value h hf (Rep.mk_int _ _) (by simp [execOp, ho, hx.int', Op.unary, Op.intArith])⟩
  · cases hf

theorem opConvert_sound (hT : TTOk P T) (h : Models E0 H0 w0 E s a w) {src dst : TypeId} {x : Operand} (ho : o.op = .convert src dst x)
    (hf : opConvert T s o.dst src dst (s.ev x) = some s') (hc : s'.cond) : s.cond ∧ Done P o E0 H0 w0 s' a w := by
  have hx := h.ev x
  simp only [opConvert, Option.bind_eq_some_iff] at hf
  obtain ⟨ts, hts, td, htd, hf⟩ := hf
  obtain ⟨⟨i, d, z, hi, hu, hsz, hby, hk, _⟩⟩ := hT src ts hts
  obtain ⟨⟨i', d', z', hi', hu', hsz', hby', hk', _⟩⟩ := hT dst td htd
  split at hf
  · rename_i k k' n hkk hv
    rw [hkk] at hk'; cases hk'
    rw [hv] at hx
    refine ⟨cond_setd hf hc, Done.value h hf (Rep.mk_int _ _) ?_⟩
    simp [execOp, ho, hx.int', convert, run_underlying hu, run_underlying hu', Conv.intToInt]
  · rename_i b hkk hv
    rw [hkk] at hk'; cases hk'
    rw [hv] at hx
    refine ⟨cond_setd hf hc, Done.value h hf (Rep.mk_str _) ?_⟩
    simp [execOp, ho, hx.str', convert, run_underlying hu, run_underlying hu']
  · cases hf

theorem opExtract_sound (h : Models E0 H0 w0 E s a w) {x : Operand} {j : Nat} (ho : o.op = .extract x j)
    (hf : opExtract s o.dst (s.ev x) j = some s') (hc : s'.cond) : s.cond ∧ Done P o E0 H0 w0 s' a w := by
  have hx := h.ev x
  unfold opExtract at hf
  split at hf
  · rename_i vs hv
    rw [hv] at hx
    simp only [Option.bind_eq_some_iff] at hf
    obtain ⟨v, hvj, hf⟩ := hf
    refine ⟨cond_setd hf hc, ?_⟩
    generalize hax : a.eval x = ax at hx
    cases hx with
    | fz _ _ hx => cases hx
    | tup _ xs hn hr =>
      have hj : j < xs.length := by
        rw [hn]
        rcases Nat.lt_or_ge j vs.length with g | g
        · exact g
        · rw [List.getElem?_eq_none g] at hvj; cases hvj
      have := hr j v hvj
      refine Done.value h hf (this) ?_
      simp [execOp, ho, hax, Instr.extract, hj, List.getD]
  · cases hf

theorem opMakeInterface_sound (hT : TTOk P T) (h : Models E0 H0 w0 E s a w) {t : TypeId} {x : Operand} (ho : o.op = .makeInterface t x)
    (hf : opMakeInterface T s o.dst t (s.ev x) = some s') (hc : s'.cond) : s.cond ∧ Done P o E0 H0 w0 s' a w := by
  have hx := h.ev x
  simp only [opMakeInterface, Option.bind_eq_some_iff] at hf
  obtain ⟨ts, hts, hf⟩ := hf
  obtain ⟨⟨i, d, z, hi, hu, hsz, hby, hk, _⟩⟩ := hT t ts hts
  cases hfr : (isFree (s.ev x) && ts.kind.solid) with
  | false => rw [hfr] at hf; cases hf
  | true =>
    rw [hfr, cond_true] at hf
    rw [Bool.and_eq_true] at hfr
    refine ⟨cond_setd hf hc, Done.value h hf ((.fz _ _ (.iface t _ _ (hx.toF hfr.1)))) ?_⟩
    simp only [execOp, ho, Instr.makeInterface, Sem.run_bind, run_underlying hu, Result.andThen]
    cases hkk : ts.kind with
    | plain => rw [hkk] at hfr; cases hfr.2
    | struct fs => rw [hkk] at hk; obtain ⟨f, rfl, _⟩ := hk; rfl
    | _ => rw [hkk] at hk; cases hk; rfl

end
end Go.Av

/- The Av framework: slices. No law is proved here. -/
import Derived.Test.YtgbgmijighbfbaaGv8
set_option linter.unusedSimpArgs false
set_option linter.unusedVariables false
set_option linter.unusedSectionVars false
namespace Go.Av

section
variable {E0 : Env} {H0 : List AObj} {w0 : World} {E : Env} {s s' : St} {a : Act} {w : World} {P : Program} {T : TT} {o : Oper}

theorem run_sliceBound (k : IntKind) (n : Int) (y : Nat) (code : BoundsCode) (h0 : 0 ≤ n) (h1 : n ≤ (y : Int)) : (Instr.sliceBound (.int k n) y code).run P w = .ok n.toNat w := by
  simp [Instr.sliceBound, asIntOf, h0, h1]

theorem loA_run (hm : Models E0 H0 w0 E s a w) {lo : Option Operand} {l : Int} (h : loA (lo.map s.ev) = some l) : (lo = none ∧ l = 0) ∨ ∃ x k, lo = some x ∧ a.eval x = .int k l := by
  cases lo with
  | none => simp only [Option.map_none, loA, Option.some.injEq] at h; exact .inl ⟨rfl, h.symm⟩
  | some x =>
    have hx := hm.ev x
    simp only [Option.map_some] at h
    cases hv : s.ev x with
    | int k n => rw [hv] at h hx; simp only [loA, Option.some.injEq] at h; subst h; exact .inr ⟨x, k, rfl, hx.int'⟩
    | _ => rw [hv] at h; cases h

theorem hiA_run (hm : Models E0 H0 w0 E s a w) {hi : Option Operand} {n : Nat} {l : Int} (h : hiA (hi.map s.ev) n = some l) : (hi = none ∧ l = n) ∨ ∃ x k, hi = some x ∧ a.eval x = .int k l := by
  cases hi with
  | none => simp only [Option.map_none, hiA, Option.some.injEq] at h; exact .inl ⟨rfl, h.symm⟩
  | some x =>
    have hx := hm.ev x
    simp only [Option.map_some] at h
    cases hv : s.ev x with
    | int k n => rw [hv] at h hx; simp only [hiA, Option.some.injEq] at h; subst h; exact .inr ⟨x, k, rfl, hx.int'⟩
    | _ => rw [hv] at h; cases h

theorem run_sliceBounds (isSlice : Bool) (len cap : Nat) (hlc : len ≤ cap) (lo hi : Option Operand) {l h : Int} (h1 : loA (lo.map s.ev) = some l) (h2 : hiA (hi.map s.ev) len = some h)
    (hm : Models E0 H0 w0 E s a w) (b1 : 0 ≤ l) (b2 : l ≤ h) (b3 : h ≤ (len : Int)) :
    (Instr.sliceBounds isSlice len cap (lo.map a.eval) (hi.map a.eval) none).run P w = .ok (l.toNat, h.toNat, cap) w := by
  rcases loA_run hm h1 with ⟨rfl, rfl⟩ | ⟨x, k, rfl, hx⟩ <;> rcases hiA_run hm h2 with ⟨rfl, rfl⟩ | ⟨y, k', rfl, hy⟩
  · simp [Instr.sliceBounds]
  · simp only [Instr.sliceBounds, Option.map_none, Option.map_some, hy, Sem.run_bind, Sem.run_pure, Result.andThen, run_sliceBound k' h cap _ (by omega) (by omega)]; rfl
  · simp only [Instr.sliceBounds, Option.map_none, Option.map_some, hx, Sem.run_bind, Sem.run_pure, Result.andThen, run_sliceBound k l len _ (by omega) (by omega)]; rfl
  · simp only [Instr.sliceBounds, Option.map_some, hx, hy, Sem.run_bind, Sem.run_pure, Result.andThen, run_sliceBound k' h cap _ (by omega) (by omega), run_sliceBound k l h.toNat _ (by omega) (by omega)]

theorem opSlice_sound (hT : TTOk P T) (h : Models E0 H0 w0 E s a w) {t : TypeId} {x : Operand} {lo hi : Option Operand} (ho : o.op = .slice t x lo hi none)
    (hf : opSlice T s o.dst t (s.ev x) (lo.map s.ev) (hi.map s.ev) = some s') (hc : s'.cond) : s.cond ∧ Done P o E0 H0 w0 s' a w := by
  have hx := h.ev x
  simp only [opSlice, Option.bind_eq_some_iff] at hf
  obtain ⟨ts, hts, n, hn, l, hl, hh, hhh, hf⟩ := hf
  obtain ⟨_, ⟨i, d, z, hi', hu, hsz, hby, hk, _⟩⟩ := hT t ts hts
  cases hkk : ts.kind with
  | slice e =>
    rw [hkk] at hk hf
    cases hk
    have hex : (execOp a.eval o).run P w = ((Instr.slice t (a.eval x) (lo.map a.eval) (hi.map a.eval) none).run P w).andThen fun v w => .ok (.value v) w := by
      simp only [execOp, ho, Instr.sliceAt, Sem.run_bind, run_underlying hu, Result.andThen, Option.map_none, Sem.run_pure]
    cases hv : s.ev x with
    | list m row =>
      rw [hv] at hf hx hn
      simp only [lenA, Option.some.injEq] at hn; subst hn
      simp only [Option.bind_eq_some_iff] at hf
      obtain ⟨te, hte, hf⟩ := hf
      have hse := run_sizeOf (w := w) (hT e te hte)
      obtain ⟨hc1, ⟨b1, b2, b3⟩, hrl⟩ := need_setd hf hc
      refine ⟨hc1, ?_⟩
      generalize hax : a.eval x = ax at hx hex
      cases hx with
      | fz _ _ hx =>
        cases hx with
        | empty _ ao cap =>
          have hb := run_sliceBounds (P := P) true 0 cap (by omega) lo hi hl hhh h b1 b2 b3
          have hz : hh.toNat - l.toNat = 0 := by omega
          refine Done.value (x := .slice (if cap = l.toNat then ao else ao.map (·.add (l.toNat * te.size))) (hh.toNat - l.toNat) (cap - l.toNat)) (h.cond _) hf ((.fz _ _ (RepF.fz ?_))) ?_
          · rw [hz]; exact .empty _ _ _
          · rw [hex]
            simp only [Instr.slice, Sem.run_bind, run_underlying hu, Result.andThen, hb, hse, Sem.run_pure]
        | list _ _ b off cap sz vs hF hcap hsz' hcell hfr hr =>
          have hb := run_sliceBounds (P := P) true m cap hcap lo hi hl hhh h b1 b2 b3
          refine Done.value (x := .slice (if cap = l.toNat then some ⟨b, off, none⟩ else (some (⟨b, off, none⟩ : Addr)).map (·.add (l.toNat * te.size))) (hh.toNat - l.toNat) (cap - l.toNat)) (h.cond _) hf ((.fz _ _ (RepF.fz ?_))) ?_
          · by_cases hz : hh.toNat - l.toNat = 0
            · rw [hz]; exact .empty _ _ _
            · have hlm : l.toNat < m := by omega
              rw [if_neg (by omega)]
              have hsz2 : sz = te.size := (hsz' _ hlm).symm.trans (hrl _ hlm)
              subst hsz2
              simp only [Option.map_some, addr_add]
              refine .list _ _ b (off + l.toNat * te.size) (cap - l.toNat) te.size (fun i j => vs (l.toNat + i) j) hF (by omega) (fun i hi => hsz' _ (by omega)) (fun i j c hi hj => ?_) (fun i j c hi hj => hfr _ j c (by omega) hj) (fun i j c hi hj => hr _ j c (by omega) hj)
              rw [show off + l.toNat * te.size + (i * te.size + j) = off + ((l.toNat + i) * te.size + j) by rw [Nat.add_mul]; omega]
              exact hcell _ j c (by omega) hj
          · rw [hex]
            simp only [Instr.slice, Sem.run_bind, run_underlying hu, Result.andThen, hb, hse, Sem.run_pure]
    | sl id b m =>
      rw [hv] at hf hx hn
      simp only [lenA, Option.some.injEq] at hn; subst hn
      simp only [Option.bind_eq_some_iff] at hf
      obtain ⟨te, hte, hf⟩ := hf
      have hse := run_sizeOf (w := w) (hT e te hte)
      cases hid : s.hp[id]? with
      | none => rw [hid] at hf; cases hf
      | some ob =>
        cases ob with
        | arr sz nn row =>
          rw [hid] at hf
          simp only at hf
          cases hbq : Nat.beq sz te.size with
          | false => rw [hbq] at hf; cases hf
          | true =>
            rw [hbq, cond_true] at hf
            have hsz2 := Nat.eq_of_beq_eq_true hbq
            obtain ⟨hc1, b1, b2, b3⟩ := need_setd hf hc
            refine ⟨hc1, ?_⟩
            obtain ⟨g1, g2, g3, g4, g5, g6⟩ := h.heap.obj id _ hid
            generalize hax : a.eval x = ax at hx hex
            cases hx with
            | fz _ _ hx => cases hx
            | sl _ _ _ av hi2 hle ha =>
              have hb := run_sliceBounds (P := P) true m (E.κ id - b) (by omega) lo hi hl hhh h b1 b2 b3
              have hrep := Rep.sl (E := E) (w := w) id (b + l.toNat) (hh.toNat - l.toNat) (if E.κ id - b = l.toNat then av else av.map (·.add (l.toNat * te.size))) hi2 (by omega) (fun hlt => by
                rw [if_neg (by omega), ha (by omega)]
                cases E.ρ id with
                | none => rfl
                | some bl => simp only [Option.map_some, addr_add, g1, hsz2, Nat.add_mul, Nat.add_assoc])
              refine Done.value (h.cond _) hf (hrep) ?_
              rw [hex]
              simp only [Instr.slice, Sem.run_bind, run_underlying hu, Result.andThen, hb, hse, Sem.run_pure, Nat.sub_sub]
        | _ => rw [hid] at hf; cases hf
    | nilsl =>
      rw [hv] at hf hx hn
      simp only [lenA, Option.some.injEq] at hn; subst hn
      simp only [Option.bind_eq_some_iff] at hf
      obtain ⟨te, hte, hf⟩ := hf
      have hse := run_sizeOf (w := w) (hT e te hte)
      obtain ⟨hc1, rfl, rfl⟩ := need_setd hf hc
      refine ⟨hc1, ?_⟩
      generalize hax : a.eval x = ax at hx hex
      cases hx with
      | fz _ _ hx =>
        cases hx
        have hb := run_sliceBounds (P := P) true 0 0 (by omega) lo hi hl hhh h (by omega) (by omega) (by omega)
        refine Done.value (x := .slice none 0 0) (h.cond _) hf ((.fz _ _ .nilsl)) ?_
        rw [hex]
        simp only [Instr.slice, Sem.run_bind, run_underlying hu, Result.andThen, hb, hse, Sem.run_pure]
        rfl
    | _ => rw [hv] at hf; cases hf
  | str =>
    rw [hkk] at hk hf
    cases hk
    cases hv : s.ev x with
    | str b =>
      rw [hv] at hf hx hn
      simp only [lenA, Option.some.injEq] at hn; subst hn
      obtain ⟨hc1, b1, b2, b3⟩ := need_setd hf hc
      have hb := run_sliceBounds (P := P) false b.size b.size (by omega) lo hi hl hhh h b1 b2 b3
      refine ⟨hc1, Done.value (h.cond _) hf (Rep.mk_str _) ?_⟩
      simp only [execOp, ho, Instr.sliceAt, Instr.slice, Sem.run_bind, run_underlying hu, Result.andThen, Option.map_none, Sem.run_pure, hx.str', Option.isSome_none, Bool.false_eq_true, if_false, hb]
    | _ => rw [hv] at hf; cases hf
  | _ => rw [hkk] at hf; cases hf

end
end Go.Av

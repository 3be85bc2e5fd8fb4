/- The Av framework: operations on the frame, further. No law is proved here. -/
import Derived.Test.YtgbgmijighbfbaaGv3
set_option linter.unusedSimpArgs false
set_option linter.unusedVariables false
set_option linter.unusedSectionVars false
namespace Go.Av

section
variable {E0 : Env} {H0 : List AObj} {w0 : World} {E : Env} {s s' : St} {a : Act} {w : World} {P : Program} {T : TT} {o : Oper}

theorem need_setd {c : Prop} {d : Option Nat} {v : AV} (hf : (s.need c).setd d v = some s') (hc : s'.cond) : s.cond ∧ c := by rw [(setd_some hf).2.1] at hc; exact hc

theorem cond_setd {d : Option Nat} {v : AV} (hf : s.setd d v = some s') (hc : s'.cond) : s.cond := by rw [(setd_some hf).2.1] at hc; exact hc

theorem opMove_sound (h : Models E0 H0 w0 E s a w) {x : Operand} (ho : o.op = .move x ∨ o.op = .assign x)
    (hf : s.setd o.dst (s.ev x) = some s') (hc : s'.cond) : s.cond ∧ Done P o E0 H0 w0 s' a w := by
  refine ⟨cond_setd hf hc, Done.value h hf (h.ev x) ?_⟩
  rcases ho with ho | ho <;> simp [execOp, ho]

theorem Rep.bool' {b : Bool} {x : Value} (h : Rep E w (.bool b) x) : x = .bool b := by
  cases h with | fz _ _ h => cases h; rfl
theorem Rep.int' {k : IntKind} {n : Int} {x : Value} (h : Rep E w (.int k n) x) : x = .int k n := by
  cases h with | fz _ _ h => cases h; rfl
theorem Rep.str' {b : ByteArray} {x : Value} (h : Rep E w (.str b) x) : x = .string b := by
  cases h with | fz _ _ h => cases h; rfl
theorem Rep.mk_bool (b : Bool) : Rep E w (.bool b) (.bool b) := .fz _ _ (.bool b)
theorem Rep.mk_int (k : IntKind) (n : Int) : Rep E w (.int k n) (.int k n) := .fz _ _ (.int k n)
theorem Rep.mk_str (b : ByteArray) : Rep E w (.str b) (.string b) := .fz _ _ (.str b)

theorem opPick_sound (h : Models E0 H0 w0 E s a w) {c x y : Operand} (ho : o.op = .pick c x y) {b : Bool} (hb : s.ev c = .bool b)
    (hf : s.setd o.dst (bif b then s.ev x else s.ev y) = some s') (hc : s'.cond) : s.cond ∧ Done P o E0 H0 w0 s' a w := by
  have h1 := h.ev c
  rw [hb] at h1
  refine ⟨cond_setd hf hc, ?_⟩
  cases b with
  | true => exact Done.value h hf (h.ev x) (by simp [execOp, ho, h1.bool', asBool])
  | false => exact Done.value h hf (h.ev y) (by simp [execOp, ho, h1.bool', asBool])

theorem newBox_cond {d : Option Nat} {cs : List AV} (hs : s.newBox d cs = some s') : s'.cond = s.cond := by
  cases d with
  | none => simp [St.newBox] at hs
  | some d =>
    simp only [St.newBox] at hs
    cases hb : Nat.blt d s.n with
    | false => simp [hb] at hs
    | true => simp only [hb, cond_true, Option.some.injEq] at hs; subst hs; rfl

theorem isFree_isCell {c : AV} (h : isFree c = true) : isCell c = true := by cases c <;> simp_all [isFree, isCell]

theorem opAlloc_sound (hT : TTOk P T) (h : Models E0 H0 w0 E s a w) {t : TypeId} (ho : o.op = .alloc t) {ts : TS} (hts : T t = some ts)
    (hf : s.newBox o.dst ts.zero = some s') (hc : s'.cond) : s.cond ∧ Done P o E0 H0 w0 s' a w := by
  refine ⟨by rw [newBox_cond hf] at hc; exact hc, ?_⟩
  obtain ⟨_, ⟨i, d, z, hi, hu, hsz, hby, hk, hz, hzl, hzs, hzr⟩⟩ := hT t ts hts
  obtain ⟨E', hm⟩ := h.newBox hf z.cells t hzl (fun j c hj => by
    obtain ⟨g1, g2⟩ := hzr j c hj
    have hj' : j < z.cells.size := by
      rw [hzl]
      rcases Nat.lt_or_ge j ts.zero.length with g | g
      · exact g
      · rw [List.getElem?_eq_none g] at hj; simp at hj
    refine ⟨isFree_isCell g1, z.cells[j], Array.getElem?_eq_getElem hj', .fz _ _ ?_⟩
    have := (g2 E.F w).1
    simpa [Array.getD, hj'] using this)
  exact ⟨.value (.pointer (some ⟨w.heap.size, 0, none⟩)), w.alloc (.cells z.cells t), E', by simp [execOp, ho, Instr.alloc, zeroValue, typeInfo, hi, hz, newVar, newRow], hm⟩

theorem cells_agg (vs : List Value) : (Value.agg vs.toArray).cells = vs.toArray := rfl

theorem cellsOf_rep {v : AV} {x : Value} (h : Rep E w v x) (hall : (cellsOf v).all isCell = true) :
    x.cells.size = (cellsOf v).length ∧ ∀ (j : Nat) c, (cellsOf v)[j]? = some c → isCell c = true ∧ ∃ u, x.cells[j]? = some u ∧ Rep E w c u := by
  have one : ∀ v : AV, (∀ cs, v ≠ .agg cs) → Rep E w v x → (cellsOf v).all isCell = true → x.cells.size = (cellsOf v).length ∧ ∀ (j : Nat) c, (cellsOf v)[j]? = some c → isCell c = true ∧ ∃ u, x.cells[j]? = some u ∧ Rep E w c u := by
    intro v hv h hall
    have hcv : cellsOf v = [v] := by cases v <;> first | rfl | exact absurd rfl (hv _)
    rw [hcv] at hall ⊢
    simp only [List.all_cons, List.all_nil, Bool.and_true] at hall
    have hr : Rep E w v x := h
    have hcx : x.cells = #[x] := by
      have := hr.oneCell hall
      cases x <;> first | rfl | simp [Value.oneCell'] at this
    rw [hcx]
    refine ⟨rfl, fun j c hj => ?_⟩
    cases j with
    | zero => simp at hj; subst hj; exact ⟨hall, x, rfl, hr⟩
    | succ j => simp at hj
  cases v with
  | agg cs =>
    cases h with
    | fz _ _ h => cases h
    | agg _ vs hn hr =>
      refine ⟨by simpa [cellsOf, cells_agg] using hn, fun j c hj => ?_⟩
      have hj' : j < vs.length := by
        rw [hn]
        rcases Nat.lt_or_ge j cs.length with g | g
        · exact g
        · simp only [cellsOf] at hj; rw [List.getElem?_eq_none g] at hj; simp at hj
      refine ⟨List.all_eq_true.1 hall c (List.mem_of_getElem? hj), vs[j], by simp [cells_agg, hj'], ?_⟩
      have := hr j c hj
      simpa [List.getD, hj'] using this
  | _ => exact one _ (fun _ => by simp) h hall

theorem opBox_sound (h : Models E0 H0 w0 E s a w) {t : TypeId} {x : Operand} (ho : o.op = .box t x)
    (hall : (cellsOf (s.ev x)).all isCell = true) (hf : s.newBox o.dst (cellsOf (s.ev x)) = some s') (hc : s'.cond) : s.cond ∧ Done P o E0 H0 w0 s' a w := by
  refine ⟨by rw [newBox_cond hf] at hc; exact hc, ?_⟩
  obtain ⟨h1, h2⟩ := cellsOf_rep (h.ev x) hall
  obtain ⟨E', hm⟩ := h.newBox hf (a.eval x).cells t h1 h2
  exact ⟨.value (.pointer (some ⟨w.heap.size, 0, none⟩)), w.alloc (.cells (a.eval x).cells t), E', by simp [execOp, ho, Instr.box, newVar, newRow], hm⟩

/-! ### addresses and parts -/

theorem fields_get {fields : Array Field} {fs : List (Nat × TypeId)} (h : fields.toList.map (fun f => (f.offset, f.type)) = fs) {f : Nat} {p : Nat × TypeId} (hp : fs[f]? = some p) :
    ∃ fd, fields[f]? = some fd ∧ fd.offset = p.1 ∧ fd.type = p.2 := by
  subst h
  obtain ⟨fd, h1, rfl⟩ := getElem?_map_some hp
  exact ⟨fd, by simpa using h1, rfl, rfl⟩

theorem opFieldAddr_sound (hT : TTOk P T) (h : Models E0 H0 w0 E s a w) {t : TypeId} {x : Operand} {f : Nat} (ho : o.op = .fieldAddr t x f)
    (hf : opFieldAddr T s o.dst t (s.ev x) f = some s') (hc : s'.cond) : s.cond ∧ Done P o E0 H0 w0 s' a w := by
  simp only [opFieldAddr, Option.bind_eq_some_iff] at hf
  obtain ⟨ts, hts, hf⟩ := hf
  obtain ⟨_, ⟨i, d, z, hi, hu, hsz, hby, hk, _⟩⟩ := hT t ts hts
  cases hkk : ts.kind with
  | struct fs =>
    rw [hkk] at hk hf
    simp only [Option.bind_eq_some_iff] at hf
    obtain ⟨p, hp, tf, htf, hf⟩ := hf
    obtain ⟨fields, rfl, hfs⟩ := hk
    obtain ⟨fd, hfd, ho1, ho2⟩ := fields_get hfs hp
    obtain ⟨_, ⟨fi, _, _, hfi, _, hfsz, _⟩⟩ := hT p.2 tf htf
    cases hle : Nat.ble 1 tf.size with
    | false => rw [hle] at hf; cases hf
    | true =>
      rw [hle, cond_true] at hf
      have hne : tf.size ≠ 0 := by have := Nat.le_of_ble_eq_true hle; omega
      have run : ∀ b off, a.eval x = .pointer (some ⟨b, off, none⟩) → (execOp a.eval o).run P w = .ok (.value (.pointer (some ⟨b, off + p.1, none⟩))) w := by
        intro b off hx
        simp [execOp, ho, hx, Instr.fieldAt, Instr.sureAddr, run_underlying hu, hfd, fieldPlace, ho2, sizeOf, typeInfo, hfi, hfsz, hne, ho1, addr_add]
      have hx := h.ev x
      cases hv : s.ev x with
      | fptr cs =>
        rw [hv] at hf hx
        refine ⟨cond_setd hf hc, ?_⟩
        cases hx with
        | fz _ _ hx =>
          generalize hax : a.eval x = ax at hx
          cases hx with
          | fptr _ b off vs hF hcell hfr hr =>
            refine Done.value h hf ((.fz _ _ (.fptr _ b (off + p.1) (fun j => vs (p.1 + j)) hF ?_ ?_ ?_))) (run b off hax)
            · intro j c hj; rw [List.getElem?_drop] at hj; rw [Nat.add_assoc]; exact hcell _ c hj
            · intro j c hj; rw [List.getElem?_drop] at hj; exact hfr _ c hj
            · intro j c hj; rw [List.getElem?_drop] at hj; exact hr _ c hj
      | hptr id idx off =>
        rw [hv] at hf hx
        refine ⟨cond_setd hf hc, ?_⟩
        generalize hax : a.eval x = ax at hx
        cases hx with
        | fz _ _ hx => cases hx
        | hptr _ _ _ b hi' hb =>
          exact Done.value h hf ((.hptr id idx (off + p.1) b hi' hb)) (by rw [run b _ hax, Nat.add_assoc])
      | _ => rw [hv] at hf; cases hf
  | _ => rw [hkk] at hf; cases hf

/-- A part of an aggregate. -/
theorem part_run {t : TypeId} {ts : TS} (hT : TOk P t ts) (cs : Array Value) (off : Nat) (h1 : ts.isAgg = false → off < cs.size) :
    (part t cs off).run P w = .ok (if ts.isAgg = true then .agg (cs.extract off (off + ts.size)) else cs.getD off default) w := by
  obtain ⟨_, i, d, z, hi, hu, hsz, hby, hk, _⟩ := hT
  simp only [part, Sem.run_bind, isAgg_run hu hk, Result.andThen]
  cases hagg : ts.isAgg with
  | true => simp [sizeOf, typeInfo, hi, hsz]
  | false => simp [h1 hagg, Array.getD]

theorem opField_sound (hT : TTOk P T) (h : Models E0 H0 w0 E s a w) {t : TypeId} {x : Operand} {f : Nat} (ho : o.op = .field t x f)
    (hf : opField T s o.dst t (s.ev x) f = some s') (hc : s'.cond) : s.cond ∧ Done P o E0 H0 w0 s' a w := by
  simp only [opField, Option.bind_eq_some_iff] at hf
  obtain ⟨ts, hts, hf⟩ := hf
  obtain ⟨_, ⟨i, d, z, hi, hu, hsz, hby, hk, _⟩⟩ := hT t ts hts
  cases hkk : ts.kind with
  | struct fs =>
    rw [hkk] at hk hf
    cases hv : s.ev x with
    | agg cs =>
      rw [hv] at hf
      simp only [Option.bind_eq_some_iff] at hf
      obtain ⟨p, hp, tf, htf, hf⟩ := hf
      cases hb : (tf.isAgg || Nat.beq tf.size 1) with
      | false => rw [hb] at hf; cases hf
      | true =>
        rw [hb, cond_true] at hf
        simp only [Option.bind_eq_some_iff] at hf
        obtain ⟨v, hv2, hf⟩ := hf
        simp only [partA] at hv2
        cases hle : Nat.ble (p.1 + tf.size) cs.length with
        | false => rw [hle] at hv2; cases hv2
        | true =>
          rw [hle, cond_true, Option.some.injEq] at hv2
          subst hv2
          have hlen := Nat.le_of_ble_eq_true hle
          obtain ⟨fields, rfl, hfs⟩ := hk
          obtain ⟨fd, hfd, ho1, ho2⟩ := fields_get hfs hp
          have hx := h.ev x
          rw [hv] at hx
          generalize hax : a.eval x = ax at hx
          cases hx with
          | fz _ _ hx => cases hx
          | agg _ vs hn hr =>
            have hsz1 : tf.isAgg = false → tf.size = 1 := fun hh => by
              rw [hh, Bool.false_or] at hb; exact Nat.eq_of_beq_eq_true hb
            have hpart := part_run (w := w) (hT p.2 tf htf) vs.toArray p.1 (fun hh => by have := hsz1 hh; simp; omega)
            refine ⟨cond_setd hf hc, Done.value (x := if tf.isAgg = true then .agg (vs.toArray.extract p.1 (p.1 + tf.size)) else vs.toArray.getD p.1 default) h hf (?_) ?_⟩
            · cases hagg : tf.isAgg with
              | true =>
                simp only [if_true]
                have e : (vs.toArray.extract p.1 (p.1 + tf.size)) = ((vs.drop p.1).take tf.size).toArray := by
                  simp [List.extract_toArray, List.extract_eq_take_drop]
                rw [e]
                refine Rep.agg _ _ (by simp; omega) fun j c hj => ?_
                have hj2 : j < tf.size ∧ cs[p.1 + j]? = some c := by
                  rw [List.getElem?_take] at hj
                  split at hj
                  · rw [List.getElem?_drop] at hj; exact ⟨by assumption, hj⟩
                  · cases hj
                have := hr _ c hj2.2
                simp only [List.getD, List.getElem?_take, hj2.1, if_true, List.getElem?_drop] at this ⊢
                exact this
              | false =>
                simp only [Bool.false_eq_true, if_false]
                have h1 := hsz1 hagg
                have hpl : p.1 < cs.length := by omega
                have := hr p.1 cs[p.1] (List.getElem?_eq_getElem hpl)
                have e2 : ofCells false ((cs.drop p.1).take tf.size) = cs[p.1] := by
                  rw [h1]
                  show ((cs.drop p.1).take 1).headD .undef = _
                  rw [List.drop_eq_getElem_cons hpl]; rfl
                rw [e2]
                have e3 : vs.toArray.getD p.1 default = vs.getD p.1 default := by
                  simp [Array.getD, List.getD, show p.1 < vs.length by omega]
                rw [e3]; exact this
            · simp [execOp, ho, hax, Instr.field, run_underlying hu, hfd, asAgg, ho1, ho2, hpart]
    | _ => rw [hv] at hf; cases hf
  | _ => rw [hkk] at hf; cases hf

end
end Go.Av

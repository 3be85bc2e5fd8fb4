/- The Av framework: operations that build. No law is proved here. -/
import Derived.Test.YtgbgmijighbfbaaGv7
set_option linter.unusedSimpArgs false
set_option linter.unusedVariables false
set_option linter.unusedSectionVars false
namespace Go.Av

theorem foldSet (off : Nat) : ∀ (vs : List Value) (k : Nat) (cells : Array Value), off + k + vs.length ≤ cells.size →
    ((vs.zipIdx k).foldl (fun cs p => cs.setIfInBounds (off + p.2) p.1) cells).size = cells.size ∧
    ∀ q : Nat, ((vs.zipIdx k).foldl (fun cs p => cs.setIfInBounds (off + p.2) p.1) cells)[q]? = if q < off + k then cells[q]? else if q < off + k + vs.length then vs[q - (off + k)]? else cells[q]? := by
  intro vs
  induction vs with
  | nil =>
    intro k cells _
    refine ⟨rfl, fun q => ?_⟩
    simp only [List.zipIdx_nil, List.foldl_nil, List.length_nil, Nat.add_zero]
    split
    · rfl
    · rfl
  | cons v vs ih =>
    intro k cells hle
    simp only [List.length_cons] at hle
    obtain ⟨h1, h2⟩ := ih (k + 1) (cells.setIfInBounds (off + k) v) (by rw [Array.size_setIfInBounds]; omega)
    rw [List.zipIdx_cons, List.foldl_cons]
    refine ⟨by rw [h1, Array.size_setIfInBounds], fun q => ?_⟩
    rw [h2 q]
    simp only [List.length_cons]
    by_cases q1 : q < off + k
    · rw [if_pos (by omega), if_pos q1, Array.getElem?_setIfInBounds, if_neg (by omega)]
    · rw [if_neg q1]
      by_cases q2 : q = off + k
      · subst q2
        rw [if_pos (by omega), if_pos (by omega), Nat.sub_self, Array.getElem?_setIfInBounds, if_pos rfl, if_pos (by omega)]; rfl
      · rw [if_neg (by omega)]
        by_cases q3 : q < off + k + (vs.length + 1)
        · rw [if_pos (by omega), if_pos q3]
          rw [show q - (off + k) = (q - (off + (k + 1))) + 1 by omega, List.getElem?_cons_succ]
        · rw [if_neg (by omega), if_neg q3, Array.getElem?_setIfInBounds, if_neg (by omega)]

section
variable {E0 : Env} {H0 : List AObj} {w0 : World} {E : Env} {s s' : St} {a : Act} {w : World} {P : Program} {T : TT} {o : Oper}

/-- Cells that stand for abstract cells. -/
def CellsRep (E : Env) (w : World) (cs : List AV) (arr : Array Value) : Prop :=
  arr.size = cs.length ∧ ∀ (j : Nat) c, cs[j]? = some c → isCell c = true ∧ ∃ v, arr[j]? = some v ∧ Rep E w c v

theorem fill_sound (place : Nat → Option (Nat × Nat)) : ∀ (parts : List (Nat × Operand)) (cs cs' : List AV) (arr : Array Value), CellsRep E w cs arr →
    (∀ p ∈ parts, Rep E w (s.ev p.2) (a.eval p.2)) →
    fillA place cs (parts.map fun p => (p.1, s.ev p.2)) = some cs' → ∃ arr', Instr.fill place arr (parts.map fun p => (p.1, a.eval p.2)) = some arr' ∧ CellsRep E w cs' arr' := by
  intro parts
  induction parts with
  | nil =>
    intro cs cs' arr h _ hf
    simp only [List.map_nil, fillA, Option.some.injEq] at hf
    subst hf
    exact ⟨arr, rfl, h⟩
  | cons p parts ih =>
    intro cs cs' arr h hp hf
    simp only [List.map_cons, fillA, Option.bind_eq_some_iff] at hf
    obtain ⟨pl, hpl, hf⟩ := hf
    cases hb : (Nat.beq (cellsOf (s.ev p.2)).length pl.2 && Nat.ble (pl.1 + pl.2) cs.length && (cellsOf (s.ev p.2)).all (fun c => isCell c)) with
    | false => rw [hb] at hf; cases hf
    | true =>
      rw [hb, cond_true] at hf
      rw [Bool.and_eq_true, Bool.and_eq_true] at hb
      obtain ⟨⟨hb1, hb2⟩, hb3⟩ := hb
      have e1 := Nat.eq_of_beq_eq_true hb1
      have e2 := Nat.le_of_ble_eq_true hb2
      obtain ⟨c1, c2⟩ := cellsOf_rep (hp p (by simp)) hb3
      obtain ⟨h1, h2⟩ := h
      have hlist : (a.eval p.2).cells.toList.length = (cellsOf (s.ev p.2)).length := by simpa using c1
      obtain ⟨f1, f2⟩ := foldSet pl.1 (a.eval p.2).cells.toList 0 arr (by rw [hlist]; omega)
      have hfold : (a.eval p.2).cells.zipIdx.foldl (fun cs (x : Value × Nat) => cs.setIfInBounds (pl.1 + x.2) x.1) arr = ((a.eval p.2).cells.toList.zipIdx 0).foldl (fun cs p => cs.setIfInBounds (pl.1 + p.2) p.1) arr := by
        rw [← Array.foldl_toList, Array.toList_zipIdx]
      have hrep : CellsRep E w (splice cs pl.1 (cellsOf (s.ev p.2))) ((a.eval p.2).cells.zipIdx.foldl (fun cs (x : Value × Nat) => cs.setIfInBounds (pl.1 + x.2) x.1) arr) := by
        rw [hfold]
        refine ⟨by rw [f1, splice_length _ _ _ (by omega)]; exact h1, fun j c hj => ?_⟩
        rw [splice_get _ _ _ _ (by omega)] at hj
        rw [f2, Nat.add_zero, hlist]
        by_cases q1 : j < pl.1
        · rw [if_pos q1] at hj ⊢; exact h2 j c hj
        · rw [if_neg q1] at hj ⊢
          by_cases q2 : j < pl.1 + (cellsOf (s.ev p.2)).length
          · rw [if_pos q2] at hj ⊢
            obtain ⟨g1, u, g2, g3⟩ := c2 _ c hj
            exact ⟨g1, u, by simpa using g2, g3⟩
          · rw [if_neg q2] at hj ⊢; exact h2 j c hj
      obtain ⟨arr', g1, g2⟩ := ih _ cs' _ hrep (fun q hq => hp q (by simp [hq])) hf
      refine ⟨arr', ?_, g2⟩
      simp only [List.map_cons, Instr.fill, hpl]
      rw [if_neg (by
        simp only [Bool.or_eq_true, decide_eq_true_eq, not_or]
        constructor
        · simp only [ne_eq, Decidable.not_not]; omega
        · omega)]
      exact g1

theorem zero_cells {t : TypeId} {ts : TS} (hT : TOk P t ts) {z : Value} {i : TypeInfo} (hi : P.info? t = some i) (hz : i.zero = some z) : CellsRep E w ts.zero z.cells := by
  obtain ⟨_, ⟨i', d, z', hi', _, _, _, _, hz', h1, h2, h3⟩⟩ := hT
  rw [hi] at hi'; cases hi'
  rw [hz] at hz'; cases hz'
  refine ⟨h1, fun j c hj => ?_⟩
  obtain ⟨g1, g2⟩ := h3 j c hj
  have hjl : j < z.cells.size := by rw [h1]; exact get_lt hj
  refine ⟨isFree_isCell g1, z.cells[j], Array.getElem?_eq_getElem hjl, .fz _ _ ?_⟩
  have := (g2 E.F w).1
  simpa [Array.getD, hjl] using this

theorem agg_of_cells {cs : List AV} {arr : Array Value} (h : CellsRep E w cs arr) : Rep E w (.agg cs) (.agg arr) := by
  have := Rep.agg (E := E) (w := w) cs arr.toList (by simpa using h.1) (fun i c hc => by
    obtain ⟨_, v, h1, h2⟩ := h.2 i c hc
    have : i < arr.size := by rw [h.1]; exact get_lt hc
    simp only [List.getD, Array.getElem?_toList, h1]; exact h2)
  simpa using this

theorem run_sizeOf {t : TypeId} {ts : TS} (hT : TOk P t ts) : (sizeOf t).run P w = .ok ts.size w := by
  obtain ⟨_, i, d, z, hi, hu, hsz, _⟩ := hT
  simp [sizeOf, typeInfo, hi, hsz]

theorem mapM_places {fields : Array Field} {fs : List (Nat × TypeId)} (hT : TTOk P T) (h : fields.toList.map (fun f => (f.offset, f.type)) = fs) (hall : fs.all (fun p => (T p.2).isSome) = true) :
    ∃ places : Array (Nat × Nat), (fields.mapM fun f => do pure (f.offset, ← sizeOf f.type) : Sem (Array (Nat × Nat))).run P w = .ok places w ∧ ∀ i : Nat, places[i]? = placeOf T fs i := by
  have key : ∀ (fl : List Field), (∀ f ∈ fl, (T f.type).isSome = true) → ∃ pl : List (Nat × Nat), (fl.mapM fun f => do pure (f.offset, ← sizeOf f.type) : Sem (List (Nat × Nat))).run P w = .ok pl w ∧
      ∀ i : Nat, pl[i]? = placeOf T (fl.map fun f => (f.offset, f.type)) i := by
    intro fl
    induction fl with
    | nil => intro _; exact ⟨[], rfl, fun i => by simp [placeOf]⟩
    | cons f fl ih =>
      intro hf
      obtain ⟨pl, h1, h2⟩ := ih (fun g hg => hf g (by simp [hg]))
      obtain ⟨tf, htf⟩ := Option.isSome_iff_exists.1 (hf f (by simp))
      refine ⟨(f.offset, tf.size) :: pl, ?_, fun i => ?_⟩
      · simp only [List.mapM_cons, Sem.run_bind, run_sizeOf (hT _ tf htf), Result.andThen, Sem.run_pure, h1]
      · cases i with
        | zero => simp [placeOf, htf]
        | succ i => simpa [placeOf] using h2 i
  obtain ⟨pl, h1, h2⟩ := key fields.toList (fun f hf => by
    subst h
    have := List.all_eq_true.1 hall (f.offset, f.type) (List.mem_map.2 ⟨f, hf, rfl⟩)
    exact this)
  subst h
  refine ⟨pl.toArray, ?_, fun i => by rw [List.getElem?_toArray]; exact h2 i⟩
  rw [Array.mapM_eq_mapM_toList]
  simp only [Sem.run_map, h1, Result.andThen]

theorem opBuild_sound (hT : TTOk P T) (h : Models E0 H0 w0 E s a w) {t : TypeId} {ps : Array (Nat × Operand)} (ho : o.op = .build t ps)
    (hf : opBuild T s o.dst t (ps.toList.map fun p => (p.1, s.ev p.2)) = some s') (hc : s'.cond) : s.cond ∧ Done P o E0 H0 w0 s' a w := by
  simp only [opBuild, Option.bind_eq_some_iff] at hf
  obtain ⟨ts, hts, hf⟩ := hf
  have hTt := hT t ts hts
  obtain ⟨_, ⟨i, d, z, hi, hu, hsz, hby, hk, hz, _⟩⟩ := hT t ts hts
  have hzero := zero_cells (E := E) (w := w) hTt hi hz
  have hparts : (ps.map fun (x : Nat × Operand) => (x.1, a.eval x.2)).toList = ps.toList.map fun p => (p.1, a.eval p.2) := by simp
  cases hkk : ts.kind with
  | struct fs =>
    rw [hkk] at hk hf
    simp only at hf
    obtain ⟨fields, rfl, hfs⟩ := hk
    cases hall : fs.all (fun p => (T p.2).isSome) with
    | false => rw [hall] at hf; cases hf
    | true =>
      rw [hall, cond_true] at hf
      simp only [Option.bind_eq_some_iff] at hf
      obtain ⟨cs, hcs, hf⟩ := hf
      obtain ⟨places, hp1, hp2⟩ := mapM_places (w := w) hT hfs hall
      obtain ⟨arr', g1, g2⟩ := fill_sound (placeOf T fs) ps.toList ts.zero cs z.cells hzero (fun p _ => h.ev p.2) hcs
      refine ⟨cond_setd hf hc, Done.value h hf ((agg_of_cells g2)) ?_⟩
      have hpl : (fun x => places[x]?) = placeOf T fs := funext hp2
      simp only [execOp, ho, Instr.build, zeroValue, typeInfo, Sem.run_bind, run_program, Result.andThen, hi, hz, Sem.run_pure, run_underlying hu, hp1, hparts, hpl, g1]
  | array n e =>
    rw [hkk] at hk hf
    cases hk
    simp only [Option.bind_eq_some_iff] at hf
    obtain ⟨te, hte, cs, hcs, hf⟩ := hf
    obtain ⟨_, ⟨ie, _, _, hie, _, hies, _⟩⟩ := hT e te hte
    obtain ⟨arr', g1, g2⟩ := fill_sound (fun i => some (i * te.size, te.size)) ps.toList ts.zero cs z.cells hzero (fun p _ => h.ev p.2) hcs
    refine ⟨cond_setd hf hc, Done.value h hf ((agg_of_cells g2)) ?_⟩
    simp only [execOp, ho, Instr.build, zeroValue, typeInfo, sizeOf, Sem.run_bind, run_program, Result.andThen, hi, hz, Sem.run_pure, run_underlying hu, hie, hies, hparts, g1]
  | _ => rw [hkk] at hf; cases hf

end
end Go.Av

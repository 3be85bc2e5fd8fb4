/- The Av framework: slices laid out, appended to, copied. No law is proved here. -/
import Derived.Test.YtgbgmijighbfbaaGv10
set_option linter.unusedSimpArgs false
set_option linter.unusedVariables false
set_option linter.unusedSectionVars false
namespace Go.Av

section
variable {E0 : Env} {H0 : List AObj} {w0 : World} {E : Env} {s s' : St} {a : Act} {w : World} {P : Program} {T : TT} {o : Oper}

theorem CellsRep.free {cs : List AV} {arr : Array Value} (h : CellsRep E w cs arr) (hf : cs.all isFree = true) {j : Nat} {c : AV} (hj : cs[j]? = some c) : ∃ v, arr[j]? = some v ∧ RepF E.F w c v := by
  obtain ⟨_, v, h1, h2⟩ := h.2 j c hj
  exact ⟨v, h1, h2.toF (List.all_eq_true.1 hf c (List.mem_of_getElem? hj))⟩

theorem rowsOf_get {sz : Nat} {cs : List AV} {i j : Nat} {c : AV} (h : (rowsOf sz cs i)[j]? = some c) : j < sz ∧ cs[i * sz + j]? = some c := by
  simp only [rowsOf, List.getElem?_take] at h
  split at h
  · rw [List.getElem?_drop] at h; exact ⟨by assumption, h⟩
  · cases h

theorem rowsOf_length {sz n : Nat} {cs : List AV} (hl : cs.length = n * sz) {i : Nat} (hi : i < n) : (rowsOf sz cs i).length = sz := by
  simp only [rowsOf, List.length_take, List.length_drop, hl]
  have : (i + 1) * sz ≤ n * sz := Nat.mul_le_mul_right _ hi
  rw [Nat.add_mul, Nat.one_mul] at this
  omega

theorem opBuildSlice_sound {own : Nat → Bool} (hT : TTOk P T) (h : Models E0 H0 w0 E s a w) {t : TypeId} {len : Nat} {ps : Array (Nat × Operand)} (ho : o.op = .buildSlice t len ps)
    (hf : opBuildSlice T own s o.dst t len (ps.toList.map fun p => (p.1, s.ev p.2)) = some s') (hc : s'.cond) : s.cond ∧ Done P o E0 H0 w0 s' a w := by
  simp only [opBuildSlice, Option.bind_eq_some_iff] at hf
  obtain ⟨ts, hts, hf⟩ := hf
  obtain ⟨_, ⟨i, d, z, hi, hu, hsz, hby, hk, _⟩⟩ := hT t ts hts
  cases hkk : ts.kind with
  | slice e =>
    rw [hkk] at hk hf
    cases hk
    simp only [Option.bind_eq_some_iff] at hf
    obtain ⟨te, hte, hf⟩ := hf
    have hTe := hT e te hte
    obtain ⟨_, ⟨ie, de, ze, hie, hue, hies, hieb, hke, hze, hzl, hzs, hzr⟩⟩ := hT e te hte
    have hzero := zero_cells (E := E) (w := w) hTe hie hze
    cases hb : (Nat.ble (len * te.size) 16777216 && Nat.ble 1 te.size) with
    | false => rw [hb] at hf; cases hf
    | true =>
      rw [hb, cond_true] at hf
      rw [Bool.and_eq_true] at hb
      have hmax := Nat.le_of_ble_eq_true hb.1
      have hpos : 0 < te.size := Nat.le_of_ble_eq_true hb.2
      have hlen16 : len ≤ 16777216 := Nat.le_trans (Nat.le_mul_of_pos_right len hpos) hmax
      simp only [Option.bind_eq_some_iff] at hf
      obtain ⟨cs, hcs, hf⟩ := hf
      let z0 : Array Value := if len * te.size = 0 then (Array.range (len * te.size)).map (fun i => (#[] : Array Value)[i % 0]!) else (Array.range (len * te.size)).map (fun i => ze.cells[i % ze.cells.size]!)
      have hz0 : CellsRep E w ((List.replicate len te.zero).flatten) z0 := by
        refine ⟨?_, fun j c hj => ?_⟩
        · rw [replicate_flatten_length, hzs]; simp only [z0]; split <;> simp
        · have hjl := get_lt hj
          rw [replicate_flatten_length] at hjl
          have hjl2 : j < len * te.size := by rw [← hzs]; exact hjl
          rw [replicate_flatten_get _ (by omega) _ _ hjl] at hj
          simp only [z0]
          rw [if_neg (by omega), zeroRange_get _ (by omega) _ _ hjl2, hzl]
          exact hzero.2 _ c hj
      have hparts : (ps.map fun (x : Nat × Operand) => (x.1, a.eval x.2)).toList = ps.toList.map fun p => (p.1, a.eval p.2) := by simp
      obtain ⟨arr, g1, g2⟩ := fill_sound (fun i => some (i * te.size, te.size)) ps.toList _ cs z0 hz0 (fun p _ => h.ev p.2) hcs
      cases hall : cs.all isFree with
      | false => rw [hall] at hf; cases hf
      | true =>
        rw [hall, cond_true] at hf
        have hrun : (execOp a.eval o).run P w = .ok (.value (.slice (some ⟨w.heap.size, 0, none⟩) len len)) (w.alloc (.cells arr e)) := by
          have hzv : (zeroValue e).run P w = .ok ze w := by simp [zeroValue, typeInfo, hie, hze]
          simp only [execOp, ho, Instr.buildSlice, Sem.run_bind, run_underlying hu, Result.andThen, run_sizeOf hTe]
          rw [if_neg (by omega)]
          by_cases h0 : len * te.size = 0
          · simp only [z0, h0, if_true] at g1
            simp only [h0, if_true, Sem.run_bind, Sem.run_pure, Result.andThen, hparts]
            rw [show (Array.map (fun x => (#[] : Array Value)[x % (#[] : Array Value).size]!) (Array.range 0)) = (Array.map (fun i => (#[] : Array Value)[i % 0]!) (Array.range 0)) from rfl, g1]; rfl
          · simp only [z0, h0, if_false] at g1
            simp only [h0, if_false, Sem.run_bind, Sem.run_pure, Result.andThen, hzv, hparts, g1]; rfl
        have hcl : cs.length = len * te.size := by
          have hh : ∀ (parts : List (Nat × AV)) (c0 c1 : List AV), fillA (fun i => some (i * te.size, te.size)) c0 parts = some c1 → c1.length = c0.length := by
            intro parts
            induction parts with
            | nil => intro c0 c1 hh; simp only [fillA, Option.some.injEq] at hh; rw [hh]
            | cons p parts ih =>
              intro c0 c1 hh
              simp only [fillA, Option.bind_eq_some_iff] at hh
              obtain ⟨pl, hpl, hh⟩ := hh
              cases hb2 : (Nat.beq (cellsOf p.2).length pl.2 && Nat.ble (pl.1 + pl.2) c0.length && (cellsOf p.2).all (fun c => isCell c)) with
              | false => rw [hb2] at hh; cases hh
              | true =>
                rw [hb2, cond_true] at hh
                rw [Bool.and_eq_true, Bool.and_eq_true] at hb2
                have e1 := Nat.eq_of_beq_eq_true hb2.1.1
                have e2 := Nat.le_of_ble_eq_true hb2.1.2
                rw [ih _ _ hh, splice_length _ _ _ (by omega)]
          rw [hh _ _ _ hcs, replicate_flatten_length, hzs]
        have hrow : ∀ (i j : Nat) c, i < len → (rowsOf te.size cs i)[j]? = some c → ∃ v, arr[i * te.size + j]? = some v ∧ RepF E.F (w.alloc (.cells arr e)) c v := by
          intro i j c hi hj
          obtain ⟨_, hj⟩ := rowsOf_get hj
          obtain ⟨v, e1, e2⟩ := g2.free hall hj
          exact ⟨v, e1, e2.mono (fun _ h => h) (fun b hb => (Same.alloc w _).block b (h.heap.frz b hb))⟩
        cases hl0 : Nat.beq len 0 with
        | true =>
          rw [hl0, cond_true] at hf
          have hlen0 := Nat.eq_of_beq_eq_true hl0
          subst hlen0
          exact ⟨cond_setd hf hc, _, _, E, hrun, (h.same (Same.alloc w _)).setd hf ((.fz _ _ (.zsl _)))⟩
        | false =>
        rw [hl0, cond_false] at hf
        cases hown : own (o.dst.getD 0) with
        | true =>
          rw [hown, cond_true] at hf
          refine ⟨by have := cond_setd hf hc; exact this, ?_⟩
          obtain ⟨hm, hsl⟩ := h.newArr (Same.alloc w (.cells arr e)) w.heap.size (Nat.le_refl _) arr e (heap_alloc_new w _) te.size len len (rowsOf te.size cs) hpos (Nat.le_refl _) (by omega) (by rw [g2.1, hcl]; exact Nat.le_refl _) (fun i hi => rowsOf_length hcl hi) hrow
          exact ⟨_, _, E.new (some w.heap.size) te.size len 0, hrun, hm.setd hf ((hsl len (Nat.le_refl _)))⟩
        | false =>
          rw [hown, cond_false] at hf
          refine ⟨cond_setd hf hc, ?_⟩
          have hm := h.newF (Same.alloc w (.cells arr e)) w.heap.size (Nat.le_refl _) (by simp)
          refine ⟨_, _, _, hrun, hm.setd hf ((.fz _ _ (RepF.fz ?_)))⟩
          by_cases hl0 : len = 0
          · subst hl0; exact .empty _ _ _
          · -- the values of the rows
            refine .list len _ w.heap.size 0 len te.size (fun i j => arr.getD (i * te.size + j) default) (.inr rfl) (Nat.le_refl _) (fun i hi => rowsOf_length hcl hi) (fun i j c hi hj => ?_) (fun i j c hi hj => ?_) (fun i j c hi hj => ?_)
            · obtain ⟨v, e1, _⟩ := hrow i j c hi hj
              have hlt : i * te.size + j < arr.size := (Array.getElem?_eq_some_iff.1 e1).1
              simp only [World.cell?, heap_alloc_new, Option.isSome_none, Bool.false_eq_true, if_false, Nat.zero_add]
              rw [Array.getElem?_eq_getElem hlt]; simp [Array.getD, hlt]
            · obtain ⟨_, hj⟩ := rowsOf_get hj
              exact List.all_eq_true.1 hall c (List.mem_of_getElem? hj)
            · obtain ⟨v, e1, e2⟩ := hrow i j c hi hj
              have hlt : i * te.size + j < arr.size := (Array.getElem?_eq_some_iff.1 e1).1
              have hv : arr.getD (i * te.size + j) default = v := by
                rw [Array.getElem?_eq_getElem hlt] at e1; cases e1; simp [Array.getD, hlt]
              simp only
              rw [hv]; exact e2.mono (fun _ h => .inl h) (fun _ _ => rfl)
  | _ => rw [hkk] at hf; cases hf

/-- A slice's rows as they lie in memory. -/
theorem Models.rows (h : Models E0 H0 w0 E s a w) {v : AV} {x : Value} (hx : Rep E w v x) {m : Nat × (Nat → List AV) × Prop} (hm : s.rows v = some m) (hc : m.2.2) (sz : Nat) (hsz : ∀ i, i < m.1 → (m.2.1 i).length = sz) :
    ∃ ao cap, x = .slice ao m.1 cap ∧ m.1 ≤ cap ∧ (0 < m.1 → ∃ b off, ao = some ⟨b, off, none⟩ ∧
      ∀ (i j : Nat) c, i < m.1 → (m.2.1 i)[j]? = some c → ∃ u, w.cell? ⟨b, off + (i * sz + j), none⟩ = some u ∧ RepF E.F w c u) := by
  cases v with
  | list n row =>
    simp only [St.rows, Option.some.injEq] at hm; subst hm
    cases hx with
    | fz _ _ hx =>
      cases hx with
      | empty _ ao cap => exact ⟨ao, cap, rfl, Nat.zero_le _, fun h => absurd h (Nat.lt_irrefl _)⟩
      | list _ _ b o cap sz' vs hF hcap hsz' hcell hfr hr =>
        refine ⟨_, cap, rfl, hcap, fun hn => ⟨b, o, rfl, fun i j c hi hj => ?_⟩⟩
        have : sz' = sz := (hsz' i hi).symm.trans (hsz i hi)
        subst this
        exact ⟨_, hcell i j c hi hj, hr i j c hi hj⟩
  | nilsl =>
    simp only [St.rows, Option.some.injEq] at hm; subst hm
    cases hx with
    | fz _ _ hx => cases hx; exact ⟨none, 0, rfl, Nat.le_refl _, fun h => absurd h (Nat.lt_irrefl _)⟩
  | zsl =>
    simp only [St.rows, Option.some.injEq] at hm; subst hm
    cases hx with
    | fz _ _ hx => cases hx; exact ⟨_, 0, rfl, Nat.le_refl _, fun h => absurd h (Nat.lt_irrefl _)⟩
  | sl id b n =>
    simp only [St.rows] at hm
    split at hm
    · rename_i sz' nn row hid
      simp only [Option.some.injEq] at hm; subst hm
      obtain ⟨g1, g2, g3, g4, g5, g6⟩ := h.heap.obj id _ hid
      cases hx with
      | fz _ _ hx => cases hx
      | sl _ _ _ av hi hle ha =>
        refine ⟨av, _, rfl, by simp only; omega, fun hn => ?_⟩
        simp only at hn hsz hc
        have hsz : ∀ i, i < n → (row (b + i)).length = sz := fun i hi => by have := hsz i hi; rwa [fz_get hi] at this
        have hav := ha (by omega)
        cases hρ : E.ρ id with
        | none => rw [hρ] at g6; omega
        | some blk =>
          rw [hρ] at g6 hav
          obtain ⟨arr, ty, e1, e2, e3⟩ := g6
          refine ⟨blk, _, hav, fun i j c hi hj => ?_⟩
          simp only at hi hj
          rw [fz_get hi] at hj
          have hszz : sz' = sz := (g5 (b + i) (by omega)).symm.trans (hsz i hi)
          subst hszz
          obtain ⟨u, hu, hr⟩ := e3 (b + i) j c (by omega) hj
          refine ⟨u, ?_, hr⟩
          rw [g1]
          simp only [World.cell?, e1, Option.isSome_none, Bool.false_eq_true, if_false]
          rw [← hu]; congr 1
          simp only [Nat.add_mul]; omega
    · cases hm
  | _ => simp [St.rows] at hm

/-- The rows' cells as one list of values. -/
theorem rows_list {n sz b off : Nat} {row : Nat → List AV} {F : Nat → Prop} (hpos : 0 < sz) (hl : ∀ i, i < n → (row i).length = sz)
    (h : ∀ (i j : Nat) c, i < n → (row i)[j]? = some c → ∃ u, w.cell? ⟨b, off + (i * sz + j), none⟩ = some u ∧ RepF F w c u) :
    ∃ news : List Value, news.length = n * sz ∧ (∀ (j : Nat) v, news[j]? = some v → w.cell? ((⟨b, off, none⟩ : Addr).add j) = some v) ∧ (∀ v ∈ news, v.oneCell' = true) ∧
      ∀ (i j : Nat) c, i < n → (row i)[j]? = some c → ∃ v, news[i * sz + j]? = some v ∧ RepF F w c v := by
  obtain ⟨news, h1, h2⟩ := listOf (n := n * sz) (R := fun q v => w.cell? ⟨b, off + q, none⟩ = some v ∧ v.oneCell' = true ∧ ∀ c, (row (q / sz))[q % sz]? = some c → RepF F w c v) (fun q hq => by
    have hi : q / sz < n := Nat.div_lt_of_lt_mul (by rw [Nat.mul_comm]; exact hq)
    have hj : q % sz < (row (q / sz)).length := by rw [hl _ hi]; exact Nat.mod_lt _ hpos
    obtain ⟨u, hu, hr⟩ := h (q / sz) (q % sz) _ hi (List.getElem?_eq_getElem hj)
    have e : q / sz * sz + q % sz = q := by rw [Nat.mul_comm]; exact Nat.div_add_mod q sz
    rw [e] at hu
    exact ⟨u, hu, hr.oneCell, fun c hc => by rw [List.getElem?_eq_getElem hj] at hc; cases hc; exact hr⟩)
  refine ⟨news, h1, fun j v hv => by rw [addr_add]; exact (h2 j v hv).1, fun v hv => ?_, fun i j c hi hj => ?_⟩
  · obtain ⟨j, hj, rfl⟩ := List.mem_iff_getElem.1 hv
    exact (h2 j _ (List.getElem?_eq_getElem hj)).2.1
  · have hjl : j < sz := by rw [← hl i hi]; exact get_lt hj
    have hq : i * sz + j < n * sz := by
      have : (i + 1) * sz ≤ n * sz := Nat.mul_le_mul_right _ hi
      rw [Nat.add_mul, Nat.one_mul] at this
      omega
    refine ⟨news[i * sz + j], List.getElem?_eq_getElem (by omega), (h2 _ _ (List.getElem?_eq_getElem (by omega))).2.2 c ?_⟩
    have e1 : (i * sz + j) / sz = i := by rw [Nat.mul_comm, Nat.mul_add_div hpos, Nat.div_eq_of_lt hjl, Nat.add_zero]
    have e2 : (i * sz + j) % sz = j := by rw [Nat.mul_comm, Nat.mul_add_mod, Nat.mod_eq_of_lt hjl]
    rw [e1, e2]; exact hj

end
end Go.Av

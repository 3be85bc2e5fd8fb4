/- The Av framework: slices that are made. No law is proved here. -/
import Derived.Test.YtaebdeidbibfkaaGreatDoorWAvM1
set_option linter.unusedSimpArgs false
set_option linter.unusedVariables false
set_option linter.unusedSectionVars false
namespace Go.Av
variable [Drawn]

theorem replicate_flatten_get {α : Type} (zl : List α) (hz : 0 < zl.length) : ∀ (n q : Nat), q < n * zl.length → ((List.replicate n zl).flatten)[q]? = zl[q % zl.length]?
  | 0, q, h => by simp at h
  | n + 1, q, h => by
    rw [List.replicate_succ, List.flatten_cons]
    rcases Nat.lt_or_ge q zl.length with g | g
    · rw [List.getElem?_append_left g, Nat.mod_eq_of_lt g]
    · rw [List.getElem?_append_right g, replicate_flatten_get zl hz n _ (by rw [Nat.add_mul, Nat.one_mul] at h; omega)]
      congr 1
      exact (Nat.mod_eq_sub_mod g).symm

theorem replicate_flatten_length {α : Type} (zl : List α) (n : Nat) : ((List.replicate n zl).flatten).length = n * zl.length := by simp [List.length_flatten]

theorem zeroRange_get (zs : Array Value) (hz : 0 < zs.size) (m q : Nat) (hq : q < m) : ((Array.range m).map (fun i => zs[i % zs.size]!))[q]? = zs[q % zs.size]? := by
  have h1 : q % zs.size < zs.size := Nat.mod_lt _ hz
  simp [hq, getElem!_def, h1]

section
variable {E0 : Env} {H0 : List AObj} {w0 : World} {E : Env} {s s' : St} {a : Act} {w : World} {P : Program} {T : TT} {o : Oper}

theorem wrap_id {n : Int} (h0 : 0 ≤ n) (h1 : n ≤ 9223372036854775807) : IntKind.i64.wrap n = n := by
  simp only [IntKind.wrap, IntKind.bits, IntKind.signed]
  have : n % (2 ^ 64 : Int) = n := Int.emod_eq_of_lt h0 (by omega)
  simp only [this]
  rw [if_neg]
  simp; omega

theorem new_ρ {n : Nat} (hN : E.N = n) (r sg kp om) : (E.new r sg kp om).ρ n = r := if_pos hN.symm
theorem new_σ {n : Nat} (hN : E.N = n) (r sg kp om) : (E.new r sg kp om).σ n = sg := if_pos hN.symm
theorem new_κ {n : Nat} (hN : E.N = n) (r sg kp om) : (E.new r sg kp om).κ n = kp := if_pos hN.symm
theorem new_ω {n : Nat} (hN : E.N = n) (r sg kp om) : (E.new r sg kp om).ω n = om := if_pos hN.symm

/-- A new array of rows, and the slice over its head. -/
theorem Models.newArr (h : Models E0 H0 w0 E s a w) {w' : World} (hs : Same w w') (g : Nat) (hg : w.heap.size ≤ g) (arr : Array Value) (ty : TypeId) (hgw : w'.heap[g]? = some (.cells arr ty (0, 0)))
    (sz n cap : Nat) (row : Nat → List AV) (hpos : 0 < sz) (hnc : n ≤ cap) (hcap : cap ≤ 9223372036854775807) (hsize : cap * sz ≤ arr.size) (hl : ∀ i, i < n → (row i).length = sz)
    (hr : ∀ (i j : Nat) c, i < n → (row i)[j]? = some c → ∃ v, arr[i * sz + j]? = some v ∧ RepF E.F w' c v) :
    Models E0 H0 w0 (E.new (some g) sz cap 0) { s with hp := s.hp ++ [.arr sz n (fz n row)] } a w' ∧ ∀ len, len ≤ n → Rep (E.new (some g) sz cap 0) w' (.sl s.hp.length 0 len) (.slice (some ⟨g, 0, none⟩) len cap) := by
  have hN := h.heap.len
  have hob : ArrRep (E.new (some g) sz cap 0) w' s.hp.length sz n (fz n row) := by
    refine ArrRep.fz ⟨new_σ hN _ _ _ _, hpos, by rw [new_κ hN]; exact hnc, by rw [new_κ hN]; exact hcap, hl, ?_⟩
    rw [new_ρ hN, new_κ hN, new_ω hN]
    refine ⟨arr, ty, hgw, by simpa using hsize, fun i j c hi hj => ?_⟩
    simp only [Nat.zero_add]
    exact hr i j c hi hj
  refine ⟨h.newObj hs (fun b hb => by cases hb; exact ⟨hg, (Array.getElem?_eq_some_iff.1 hgw).1⟩) hob, fun len hlen => ?_⟩
  have := Rep.sl (E := E.new (some g) sz cap 0) (w := w') s.hp.length 0 len (some ⟨g, 0, none⟩) (by show _ < E.N + 1; omega) (by rw [new_κ hN]; omega)
    (fun _ => by rw [new_ρ hN, new_ω hN]; simp)
  rw [new_κ hN] at this
  exact this

theorem opMakeSlice_sound {own : Nat → Bool} (hT : TTOk P T) (h : Models E0 H0 w0 E s a w) {t : TypeId} {x y : Operand} (ho : o.op = .makeSlice t x y)
    (hf : opMakeSlice T own s o.dst t (s.ev x) (s.ev y) = some s') (hc : s'.cond) : s.cond ∧ Done P o E0 H0 w0 s' a w := by
  have hx := h.ev x
  have hy := h.ev y
  simp only [opMakeSlice, Option.bind_eq_some_iff] at hf
  obtain ⟨ts, hts, hf⟩ := hf
  obtain ⟨_, ⟨i, d, z, hi', hu, hsz, hby, hk, _⟩⟩ := hT t ts hts
  split at hf
  · rename_i e n m hkk hvx hvy
    rw [hkk] at hk; cases hk
    rw [hvx] at hx; rw [hvy] at hy
    simp only [Option.bind_eq_some_iff] at hf
    obtain ⟨te, hte, hf⟩ := hf
    have hTe := hT e te hte
    obtain ⟨_, ⟨ie, de, ze, hie, hue, hies, hieb, hke, hze, hzl, hzs, hzr⟩⟩ := hT e te hte
    have hzero := zero_cells (E := E) (w := w) hTe hie hze
    cases hle : Nat.ble 1 te.size with
    | false => rw [hle] at hf; cases hf
    | true =>
      rw [hle, cond_true] at hf
      have hpos : 0 < te.size := Nat.le_of_ble_eq_true hle
      have hcc : s.cond ∧ (0 ≤ n ∧ n ≤ m ∧ m * (te.bytes : Int) ≤ 140737488355328 ∧ m ≤ 9223372036854775807) := by
        cases hown : own (o.dst.getD 0 + 2000) with
        | true => rw [hown, cond_true] at hf; obtain ⟨e1, e2, e3, e4, e5⟩ := setd_some hf; rw [e2] at hc; exact hc
        | false => rw [hown, cond_false] at hf; obtain ⟨e1, e2, e3, e4, e5⟩ := setd_some hf; rw [e2] at hc; exact hc
      obtain ⟨hc1, b1, b2, b3, b4⟩ := hcc
      refine ⟨hc1, ?_⟩
      obtain ⟨M, hM⟩ : ∃ M : Nat, m = M := Int.eq_ofNat_of_zero_le (by omega)
      obtain ⟨N, hN⟩ : ∃ N : Nat, n = N := Int.eq_ofNat_of_zero_le b1
      subst hM; subst hN
      -- the new row
      let arr : Array Value := if M * te.size = 0 then (Array.range (M * te.size)).map (fun i => (#[] : Array Value)[i % 0]!) else (Array.range (M * te.size)).map (fun i => ze.cells[i % ze.cells.size]!)
      have harr : arr.size = M * te.size := by simp only [arr]; split <;> simp
      have hrun : (execOp a.eval o).run P w = .ok (.value (.slice (some ⟨w.heap.size, 0, none⟩) N M)) (w.alloc (.cells arr e)) := by
        have hw1 : IntKind.i64.wrap (N : Int) = N := wrap_id (by omega) (by omega)
        have hw2 : IntKind.i64.wrap (M : Int) = M := wrap_id (by omega) b4
        have h3 : (te.bytes : Int) * (M : Int) ≤ 140737488355328 := by rw [Int.mul_comm]; exact b3
        have h4 : ¬ (281474976710656 < (te.bytes : Int) * (M : Int)) := by omega
        have h5 : ¬ ((M : Int) < 0) := by omega
        have h6 : ¬ ((N : Int) < 0) := by omega
        have h7 : ¬ ((M : Int) < (N : Int)) := by omega
        have hti : (typeInfo e).run P w = .ok ie w := by simp [typeInfo, hie]
        have hzv : (zeroValue e).run P w = .ok ze w := by simp [zeroValue, typeInfo, hie, hze]
        simp only [execOp, ho, Instr.makeSlice, Sem.run_bind, run_underlying hu, Result.andThen, hx.int', hy.int', asInt, asIntOf, Sem.run_pure, hti, hieb, hw1, hw2]
        rw [if_neg (by simp [h4, h5, h6, h7])]
        simp only [Sem.run_bind, run_askRoom, Result.andThen, run_sizeOf hTe, Int.toNat_natCast]
        by_cases h0 : M * te.size = 0
        · simp only [h0, if_true, Sem.run_bind, Result.andThen, Sem.run_pure, newRow, run_newObj, arr]; rfl
        · simp only [h0, if_false, Sem.run_bind, Result.andThen, hzv, Sem.run_pure, newRow, run_newObj, arr]; rfl
      have hrow : ∀ (i j : Nat) c, i < N → (constRow te.zero i)[j]? = some c → ∃ v, arr[i * te.size + j]? = some v ∧ RepF E.F (w.alloc (.cells arr e)) c v := by
        intro i j c hi hj
        have hjl : j < te.zero.length := get_lt hj
        obtain ⟨g1, u, g2, g3⟩ := hzero.2 j c hj
        obtain ⟨f1, f2⟩ := hzr j c hj
        have hq : i * te.size + j < M * te.size := by
          have : (i + 1) * te.size ≤ M * te.size := Nat.mul_le_mul_right _ (by omega)
          rw [Nat.add_mul, Nat.one_mul] at this
          omega
        refine ⟨u, ?_, ?_⟩
        · simp only [arr]
          rw [if_neg (by omega), zeroRange_get _ (by omega) _ _ hq, hzl, hzs, Nat.mul_comm, Nat.mul_add_mod, Nat.mod_eq_of_lt (by omega)]
          exact g2
        · have := (f2 E.F (w.alloc (.cells arr e))).1
          have hjz : j < ze.cells.size := by omega
          have hu' : ze.cells.getD j default = u := by
            rw [Array.getElem?_eq_some_iff] at g2
            obtain ⟨_, g2⟩ := g2
            simp [Array.getD, hjz, g2]
          rw [hu'] at this; exact this
      cases hown : own (o.dst.getD 0 + 2000) with
      | false =>
        rw [hown, cond_false] at hf
        obtain ⟨hm, hsl⟩ := h.newArr (Same.alloc w (.cells arr e)) w.heap.size (Nat.le_refl _) arr e (heap_alloc_new w _) te.size N M (constRow te.zero) hpos (by omega) (by omega) (by omega) (fun _ _ => hzs) hrow
        exact ⟨_, _, E.new (some w.heap.size) te.size M 0, hrun, (hm.cond _).setd hf ((hsl N (Nat.le_refl _)))⟩
      | true =>
        rw [hown, cond_true] at hf
        have hm := h.newF (Same.alloc w (.cells arr e)) w.heap.size (Nat.le_refl _) (by simp)
        refine ⟨_, _, _, hrun, (hm.cond _).setd hf ((.fz _ _ (RepF.fz ?_)))⟩
        show RepF _ _ (.list N (constRow te.zero)) _
        by_cases hl0 : N = 0
        · subst hl0; exact .empty _ _ _
        · refine .list N _ w.heap.size 0 M te.size (fun i j => arr.getD (i * te.size + j) default) (.inr rfl) (by omega) (fun i hi => hzs) (fun i j c hi hj => ?_) (fun i j c hi hj => ?_) (fun i j c hi hj => ?_)
          · obtain ⟨v, e1, _⟩ := hrow i j c hi hj
            have hlt : i * te.size + j < arr.size := (Array.getElem?_eq_some_iff.1 e1).1
            simp only [World.cell?, heap_alloc_new, Option.isSome_none, Bool.false_eq_true, if_false, Nat.zero_add]
            rw [Array.getElem?_eq_getElem hlt]; simp [Array.getD, hlt]
          · exact (hzr j c hj).1
          · obtain ⟨v, e1, e2⟩ := hrow i j c hi hj
            have hlt : i * te.size + j < arr.size := (Array.getElem?_eq_some_iff.1 e1).1
            have hv : arr.getD (i * te.size + j) default = v := by
              rw [Array.getElem?_eq_getElem hlt] at e1; cases e1; simp [Array.getD, hlt]
            simp only
            rw [hv]; exact e2.mono (fun _ h => .inl h) (fun _ _ => rfl)
  · cases hf

end
/-- A slice of an owned array is a frozen slice when the array's block is frozen. -/
theorem sl_frozen {E : Env} {w : World} {id sz m b n : Nat} {row : Nat → List AV} {x : Value} (ho : ArrRep E w id sz m row) (hx : Rep E w (.sl id b n) x) (hc : b + n ≤ m)
    {F : Nat → Prop} (hF : ∀ b, E.F b → F b) (hb : ∀ b, E.ρ id = some b → F b) : RepF F w (.list n (dropRow b row)) x := by
  obtain ⟨g1, g2, g3, g4, g5, g6⟩ := ho
  cases hx with
  | fz _ _ hx => cases hx
  | sl _ _ _ av hi hle ha =>
    by_cases hn : n = 0
    · subst hn; exact .empty _ _ _
    · have hav := ha (by omega)
      cases hρ : E.ρ id with
      | none => rw [hρ] at g6; omega
      | some blk =>
        rw [hρ] at g6 hav
        simp only [Option.map_some] at hav
        subst hav
        obtain ⟨arr, ty, e1, e2, e3⟩ := g6
        refine .list n _ blk _ _ sz (fun i j => arr.getD ((E.ω id + (b + i)) * sz + j) default) (hb blk hρ) (by omega) (fun i hi' => g5 _ (by omega)) (fun i j c hi' hj => ?_) (fun i j c hi' hj => ?_) (fun i j c hi' hj => ?_)
        · obtain ⟨v, f1, f2⟩ := e3 (b + i) j c (by omega) hj
          have hlt : (E.ω id + (b + i)) * sz + j < arr.size := (Array.getElem?_eq_some_iff.1 f1).1
          simp only [World.cell?, e1, Option.isSome_none, Bool.false_eq_true, if_false]
          rw [g1, show (E.ω id + b) * sz + (i * sz + j) = (E.ω id + (b + i)) * sz + j by simp only [Nat.add_mul]; omega, Array.getElem?_eq_getElem hlt]
          simp [Array.getD, hlt]
        · obtain ⟨v, f1, f2⟩ := e3 (b + i) j c (by omega) hj
          exact f2.isFree
        · obtain ⟨v, f1, f2⟩ := e3 (b + i) j c (by omega) hj
          have hlt : (E.ω id + (b + i)) * sz + j < arr.size := (Array.getElem?_eq_some_iff.1 f1).1
          have hv : arr.getD ((E.ω id + (b + i)) * sz + j) default = v := by
            rw [Array.getElem?_eq_getElem hlt] at f1; cases f1; simp [Array.getD, hlt]
          rw [hv]; exact f2.mono hF (fun _ _ => rfl)

end Go.Av

namespace Go.Av
variable [Drawn]

section
variable {E0 : Env} {H0 : List AObj} {w0 : World} {E : Env} {s s' : St} {a : Act} {w : World} {P : Program} {T : TT} {o : Oper}

theorem CellsRep.free {cs : List AV} {arr : Array Value} (h : CellsRep E w cs arr) (hf : cs.all isFree = true) {j : Nat} {c : AV} (hj : cs[j]? = some c) : ∃ v, arr[j]? = some v ∧ RepF E.F w c v := by
  obtain ⟨_, v, h1, h2⟩ := h.2 j c hj
  exact ⟨v, h1, h2.toF (List.all_eq_true.1 hf c (List.mem_of_getElem? hj))⟩

theorem rowsOf_get {sz : Nat} {cs : List AV} {i j : Nat} {c : AV} (h : (rowsOf sz cs i)[j]? = some c) : j < sz ∧ cs[i * sz + j]? = some c := by
  simp only [rowsOf, List.getElem?_take] at h
  split at h
  · rw [List.getElem?_drop] at h; exact ⟨by assumption, h⟩
  · cases h

theorem rowsOf_length {sz n : Nat} {cs : List AV} (hl : cs.length = n * sz) {i : Nat} (hi : i < n) : (rowsOf sz cs i).length = sz := by
  simp only [rowsOf, List.length_take, List.length_drop, hl]
  have : (i + 1) * sz ≤ n * sz := Nat.mul_le_mul_right _ hi
  rw [Nat.add_mul, Nat.one_mul] at this
  omega

theorem opBuildSlice_sound {own : Nat → Bool} (hT : TTOk P T) (h : Models E0 H0 w0 E s a w) {t : TypeId} {len : Nat} {ps : Array (Nat × Operand)} (ho : o.op = .buildSlice t len ps)
    (hf : opBuildSlice T own s o.dst t len (ps.toList.map fun p => (p.1, s.ev p.2)) = some s') (hc : s'.cond) : s.cond ∧ Done P o E0 H0 w0 s' a w := by
  simp only [opBuildSlice, Option.bind_eq_some_iff] at hf
  obtain ⟨ts, hts, hf⟩ := hf
  obtain ⟨_, ⟨i, d, z, hi, hu, hsz, hby, hk, _⟩⟩ := hT t ts hts
  cases hkk : ts.kind with
  | slice e =>
    rw [hkk] at hk hf
    cases hk
    simp only [Option.bind_eq_some_iff] at hf
    obtain ⟨te, hte, hf⟩ := hf
    have hTe := hT e te hte
    obtain ⟨_, ⟨ie, de, ze, hie, hue, hies, hieb, hke, hze, hzl, hzs, hzr⟩⟩ := hT e te hte
    have hzero := zero_cells (E := E) (w := w) hTe hie hze
    cases hb : (Nat.ble (len * te.size) 16777216 && Nat.ble 1 te.size) with
    | false => rw [hb] at hf; cases hf
    | true =>
      rw [hb, cond_true] at hf
      rw [Bool.and_eq_true] at hb
      have hmax := Nat.le_of_ble_eq_true hb.1
      have hpos : 0 < te.size := Nat.le_of_ble_eq_true hb.2
      have hlen16 : len ≤ 16777216 := Nat.le_trans (Nat.le_mul_of_pos_right len hpos) hmax
      simp only [Option.bind_eq_some_iff] at hf
      obtain ⟨cs, hcs, hf⟩ := hf
      let z0 : Array Value := if len * te.size = 0 then (Array.range (len * te.size)).map (fun i => (#[] : Array Value)[i % 0]!) else (Array.range (len * te.size)).map (fun i => ze.cells[i % ze.cells.size]!)
      have hz0 : CellsRep E w ((List.replicate len te.zero).flatten) z0 := by
        refine ⟨?_, fun j c hj => ?_⟩
        · rw [replicate_flatten_length, hzs]; simp only [z0]; split <;> simp
        · have hjl := get_lt hj
          rw [replicate_flatten_length] at hjl
          have hjl2 : j < len * te.size := by rw [← hzs]; exact hjl
          rw [replicate_flatten_get _ (by omega) _ _ hjl] at hj
          simp only [z0]
          rw [if_neg (by omega), zeroRange_get _ (by omega) _ _ hjl2, hzl]
          exact hzero.2 _ c hj
      have hparts : (ps.map fun (x : Nat × Operand) => (x.1, a.eval x.2)).toList = ps.toList.map fun p => (p.1, a.eval p.2) := by simp
      obtain ⟨arr, g1, g2⟩ := fill_sound (fun i => some (i * te.size, te.size)) ps.toList _ cs z0 hz0 (fun p _ => h.ev p.2) hcs
      cases hall : cs.all isFree with
      | false => rw [hall] at hf; cases hf
      | true =>
        rw [hall, cond_true] at hf
        have hrun : (execOp a.eval o).run P w = .ok (.value (.slice (some ⟨w.heap.size, 0, none⟩) len len)) (w.alloc (.cells arr e)) := by
          have hzv : (zeroValue e).run P w = .ok ze w := by simp [zeroValue, typeInfo, hie, hze]
          simp only [execOp, ho, Instr.buildSlice, Sem.run_bind, run_underlying hu, Result.andThen, run_sizeOf hTe]
          rw [if_neg (by omega)]
          by_cases h0 : len * te.size = 0
          · simp only [z0, h0, if_true] at g1
            simp only [h0, if_true, Sem.run_bind, Sem.run_pure, Result.andThen, hparts]
            rw [show (Array.map (fun x => (#[] : Array Value)[x % (#[] : Array Value).size]!) (Array.range 0)) = (Array.map (fun i => (#[] : Array Value)[i % 0]!) (Array.range 0)) from rfl, g1]; rfl
          · simp only [z0, h0, if_false] at g1
            simp only [h0, if_false, Sem.run_bind, Sem.run_pure, Result.andThen, hzv, hparts, g1]; rfl
        have hcl : cs.length = len * te.size := by
          have hh : ∀ (parts : List (Nat × AV)) (c0 c1 : List AV), fillA (fun i => some (i * te.size, te.size)) c0 parts = some c1 → c1.length = c0.length := by
            intro parts
            induction parts with
            | nil => intro c0 c1 hh; simp only [fillA, Option.some.injEq] at hh; rw [hh]
            | cons p parts ih =>
              intro c0 c1 hh
              simp only [fillA, Option.bind_eq_some_iff] at hh
              obtain ⟨pl, hpl, hh⟩ := hh
              cases hb2 : (Nat.beq (cellsOf p.2).length pl.2 && Nat.ble (pl.1 + pl.2) c0.length && (cellsOf p.2).all (fun c => isCell c)) with
              | false => rw [hb2] at hh; cases hh
              | true =>
                rw [hb2, cond_true] at hh
                rw [Bool.and_eq_true, Bool.and_eq_true] at hb2
                have e1 := Nat.eq_of_beq_eq_true hb2.1.1
                have e2 := Nat.le_of_ble_eq_true hb2.1.2
                rw [ih _ _ hh, splice_length _ _ _ (by omega)]
          rw [hh _ _ _ hcs, replicate_flatten_length, hzs]
        have hrow : ∀ (i j : Nat) c, i < len → (rowsOf te.size cs i)[j]? = some c → ∃ v, arr[i * te.size + j]? = some v ∧ RepF E.F (w.alloc (.cells arr e)) c v := by
          intro i j c hi hj
          obtain ⟨_, hj⟩ := rowsOf_get hj
          obtain ⟨v, e1, e2⟩ := g2.free hall hj
          exact ⟨v, e1, e2.mono (fun _ h => h) (fun b hb => (Same.alloc w _).block b (h.heap.frz b hb))⟩
        cases hl0 : Nat.beq len 0 with
        | true =>
          rw [hl0, cond_true] at hf
          have hlen0 := Nat.eq_of_beq_eq_true hl0
          subst hlen0
          exact ⟨cond_setd hf hc, _, _, E, hrun, (h.same (Same.alloc w _)).setd hf ((.fz _ _ (.zsl _)))⟩
        | false =>
        rw [hl0, cond_false] at hf
        cases hown : own (o.dst.getD 0) with
        | true =>
          rw [hown, cond_true] at hf
          refine ⟨by have := cond_setd hf hc; exact this, ?_⟩
          obtain ⟨hm, hsl⟩ := h.newArr (Same.alloc w (.cells arr e)) w.heap.size (Nat.le_refl _) arr e (heap_alloc_new w _) te.size len len (rowsOf te.size cs) hpos (Nat.le_refl _) (by omega) (by rw [g2.1, hcl]; exact Nat.le_refl _) (fun i hi => rowsOf_length hcl hi) hrow
          exact ⟨_, _, E.new (some w.heap.size) te.size len 0, hrun, hm.setd hf ((hsl len (Nat.le_refl _)))⟩
        | false =>
          rw [hown, cond_false] at hf
          refine ⟨cond_setd hf hc, ?_⟩
          have hm := h.newF (Same.alloc w (.cells arr e)) w.heap.size (Nat.le_refl _) (by simp)
          refine ⟨_, _, _, hrun, hm.setd hf ((.fz _ _ (RepF.fz ?_)))⟩
          by_cases hl0 : len = 0
          · subst hl0; exact .empty _ _ _
          · -- the values of the rows
            refine .list len _ w.heap.size 0 len te.size (fun i j => arr.getD (i * te.size + j) default) (.inr rfl) (Nat.le_refl _) (fun i hi => rowsOf_length hcl hi) (fun i j c hi hj => ?_) (fun i j c hi hj => ?_) (fun i j c hi hj => ?_)
            · obtain ⟨v, e1, _⟩ := hrow i j c hi hj
              have hlt : i * te.size + j < arr.size := (Array.getElem?_eq_some_iff.1 e1).1
              simp only [World.cell?, heap_alloc_new, Option.isSome_none, Bool.false_eq_true, if_false, Nat.zero_add]
              rw [Array.getElem?_eq_getElem hlt]; simp [Array.getD, hlt]
            · obtain ⟨_, hj⟩ := rowsOf_get hj
              exact List.all_eq_true.1 hall c (List.mem_of_getElem? hj)
            · obtain ⟨v, e1, e2⟩ := hrow i j c hi hj
              have hlt : i * te.size + j < arr.size := (Array.getElem?_eq_some_iff.1 e1).1
              have hv : arr.getD (i * te.size + j) default = v := by
                rw [Array.getElem?_eq_getElem hlt] at e1; cases e1; simp [Array.getD, hlt]
              simp only
              rw [hv]; exact e2.mono (fun _ h => .inl h) (fun _ _ => rfl)
  | _ => rw [hkk] at hf; cases hf

/-- A slice's rows as they lie in memory. -/
theorem Models.rows (h : Models E0 H0 w0 E s a w) {v : AV} {x : Value} (hx : Rep E w v x) {m : Nat × (Nat → List AV) × Prop} (hm : s.rows v = some m) (hc : m.2.2) (sz : Nat) (hsz : ∀ i, i < m.1 → (m.2.1 i).length = sz) :
    ∃ ao cap, x = .slice ao m.1 cap ∧ m.1 ≤ cap ∧ (0 < m.1 → ∃ b off, ao = some ⟨b, off, none⟩ ∧
      ∀ (i j : Nat) c, i < m.1 → (m.2.1 i)[j]? = some c → ∃ u, w.cell? ⟨b, off + (i * sz + j), none⟩ = some u ∧ RepF E.F w c u) := by
  cases v with
  | list n row =>
    simp only [St.rows, Option.some.injEq] at hm; subst hm
    cases hx with
    | fz _ _ hx =>
      cases hx with
      | empty _ ao cap => exact ⟨ao, cap, rfl, Nat.zero_le _, fun h => absurd h (Nat.lt_irrefl _)⟩
      | list _ _ b o cap sz' vs hF hcap hsz' hcell hfr hr =>
        refine ⟨_, cap, rfl, hcap, fun hn => ⟨b, o, rfl, fun i j c hi hj => ?_⟩⟩
        have : sz' = sz := (hsz' i hi).symm.trans (hsz i hi)
        subst this
        exact ⟨_, hcell i j c hi hj, hr i j c hi hj⟩
  | nilsl =>
    simp only [St.rows, Option.some.injEq] at hm; subst hm
    cases hx with
    | fz _ _ hx => cases hx; exact ⟨none, 0, rfl, Nat.le_refl _, fun h => absurd h (Nat.lt_irrefl _)⟩
  | zsl =>
    simp only [St.rows, Option.some.injEq] at hm; subst hm
    cases hx with
    | fz _ _ hx => cases hx; exact ⟨_, 0, rfl, Nat.le_refl _, fun h => absurd h (Nat.lt_irrefl _)⟩
  | sl id b n =>
    simp only [St.rows] at hm
    split at hm
    · rename_i sz' nn row hid
      simp only [Option.some.injEq] at hm; subst hm
      obtain ⟨g1, g2, g3, g4, g5, g6⟩ := h.heap.obj id _ hid
      cases hx with
      | fz _ _ hx => cases hx
      | sl _ _ _ av hi hle ha =>
        refine ⟨av, _, rfl, by simp only; omega, fun hn => ?_⟩
        simp only at hn hsz hc
        have hsz : ∀ i, i < n → (row (b + i)).length = sz := fun i hi => by have := hsz i hi; rwa [fz_get hi] at this
        have hav := ha (by omega)
        cases hρ : E.ρ id with
        | none => rw [hρ] at g6; omega
        | some blk =>
          rw [hρ] at g6 hav
          obtain ⟨arr, ty, e1, e2, e3⟩ := g6
          refine ⟨blk, _, hav, fun i j c hi hj => ?_⟩
          simp only at hi hj
          rw [fz_get hi] at hj
          have hszz : sz' = sz := (g5 (b + i) (by omega)).symm.trans (hsz i hi)
          subst hszz
          obtain ⟨u, hu, hr⟩ := e3 (b + i) j c (by omega) hj
          refine ⟨u, ?_, hr⟩
          rw [g1]
          simp only [World.cell?, e1, Option.isSome_none, Bool.false_eq_true, if_false]
          rw [← hu]; congr 1
          simp only [Nat.add_mul]; omega
    · cases hm
  | _ => simp [St.rows] at hm

/-- The rows' cells as one list of values. -/
theorem rows_list {n sz b off : Nat} {row : Nat → List AV} {F : Nat → Prop} (hpos : 0 < sz) (hl : ∀ i, i < n → (row i).length = sz)
    (h : ∀ (i j : Nat) c, i < n → (row i)[j]? = some c → ∃ u, w.cell? ⟨b, off + (i * sz + j), none⟩ = some u ∧ RepF F w c u) :
    ∃ news : List Value, news.length = n * sz ∧ (∀ (j : Nat) v, news[j]? = some v → w.cell? ((⟨b, off, none⟩ : Addr).add j) = some v) ∧ (∀ v ∈ news, v.oneCell' = true) ∧
      ∀ (i j : Nat) c, i < n → (row i)[j]? = some c → ∃ v, news[i * sz + j]? = some v ∧ RepF F w c v := by
  obtain ⟨news, h1, h2⟩ := listOf (n := n * sz) (R := fun q v => w.cell? ⟨b, off + q, none⟩ = some v ∧ v.oneCell' = true ∧ ∀ c, (row (q / sz))[q % sz]? = some c → RepF F w c v) (fun q hq => by
    have hi : q / sz < n := Nat.div_lt_of_lt_mul (by rw [Nat.mul_comm]; exact hq)
    have hj : q % sz < (row (q / sz)).length := by rw [hl _ hi]; exact Nat.mod_lt _ hpos
    obtain ⟨u, hu, hr⟩ := h (q / sz) (q % sz) _ hi (List.getElem?_eq_getElem hj)
    have e : q / sz * sz + q % sz = q := by rw [Nat.mul_comm]; exact Nat.div_add_mod q sz
    rw [e] at hu
    exact ⟨u, hu, hr.oneCell, fun c hc => by rw [List.getElem?_eq_getElem hj] at hc; cases hc; exact hr⟩)
  refine ⟨news, h1, fun j v hv => by rw [addr_add]; exact (h2 j v hv).1, fun v hv => ?_, fun i j c hi hj => ?_⟩
  · obtain ⟨j, hj, rfl⟩ := List.mem_iff_getElem.1 hv
    exact (h2 j _ (List.getElem?_eq_getElem hj)).2.1
  · have hjl : j < sz := by rw [← hl i hi]; exact get_lt hj
    have hq : i * sz + j < n * sz := by
      have : (i + 1) * sz ≤ n * sz := Nat.mul_le_mul_right _ hi
      rw [Nat.add_mul, Nat.one_mul] at this
      omega
    refine ⟨news[i * sz + j], List.getElem?_eq_getElem (by omega), (h2 _ _ (List.getElem?_eq_getElem (by omega))).2.2 c ?_⟩
    have e1 : (i * sz + j) / sz = i := by rw [Nat.mul_comm, Nat.mul_add_div hpos, Nat.div_eq_of_lt hjl, Nat.add_zero]
    have e2 : (i * sz + j) % sz = j := by rw [Nat.mul_comm, Nat.mul_add_mod, Nat.mod_eq_of_lt hjl]
    rw [e1, e2]; exact hj

end
end Go.Av

namespace Go.Av
variable [Drawn]

/-- An array's rows, written otherwise. -/
theorem Models.rowEq {E0 : Env} {H0 : List AObj} {w0 : World} {E : Env} {s : St} {a : Act} {w : World} (h : Models E0 H0 w0 E s a w) {id sz n : Nat} {row row' : Nat → List AV} (hid : s.hp[id]? = some (.arr sz n row)) (hr : ∀ i, i < n → row i = row' i) :
    Models E0 H0 w0 E { s with hp := s.hp.set id (.arr sz n row') } a w := by
  have hlv : ∀ j, Live (s.hp.set id (.arr sz n row')) j → Live s.hp j := fun j hj => live_set hid (by simp) hj
  refine ⟨h.size, h.tmps, ⟨by simp [h.heap.len], fun j o ho => ?_, fun j b hl => h.heap.lt j b (hlv j hl), fun j b hl => h.heap.fr j b (hlv j hl), fun i j b hi hj => h.heap.inj i j b (hlv i hi) (hlv j hj), h.heap.frz⟩, by simpa using h.base, fun j hj => let q := h.old j hj; ⟨fun hl => q.1 (hlv j hl), q.2⟩, fun j b hj hl => h.new j b hj (hlv j hl), h.F, h.Fnew, h.keeps, h.laid⟩
  rcases set_get ho with ⟨e1, e2⟩ | ⟨_, ho⟩
  · subst e1; subst e2
    exact (show ArrRep E w id sz n row from h.heap.obj id _ hid).congr hr
  · exact h.heap.obj j o ho


section
variable {E0 : Env} {H0 : List AObj} {w0 : World} {E : Env} {s s' : St} {a : Act} {w : World} {P : Program} {T : TT} {o : Oper}

/-- A slice's first cells as a list of values. -/
def Src (w : World) (size n : Nat) (ao : Option Addr) (news : List Value) : Prop :=
  news.length = n * size ∧ (news = [] ∨ ∃ b, ao = some b ∧ ∀ (j : Nat) v, news[j]? = some v → w.cell? (b.add j) = some v)

theorem Src.first {size n : Nat} {ao : Option Addr} {news : List Value} (h : Src w size n ao news) (cap : Nat) : (Builtin.firstCells size n (.slice ao n cap)).run P w = .ok news.toArray w := by
  obtain ⟨hl, h⟩ := h
  rcases h with rfl | ⟨b, rfl, h⟩
  · simp only [List.length_nil] at hl
    cases ao with
    | none => rfl
    | some b =>
      simp only [Builtin.firstCells, ← hl]; rfl
  · exact run_firstCells_some w size n b n cap news hl h

theorem Src.drew {size n : Nat} {ao : Option Addr} {news : List Value} (h : Src w size n ao news) : Src w.drew size n ao news := h

theorem run_append_inplace (t ty e : TypeId) {te : TS} (ht : P.underlying t = some (.slice e)) (hTe : TOk P e te) (base : Option Addr) (sLen sCap : Nat) (ao : Option Addr) (m c : Nat) (news : List Value)
    (hs : Src w te.size m ao news) (hroom : sLen + m ≤ sCap) {w' : World}
    (hw : match base with | none => w' = w | some b => (storeCells (b.add (sLen * te.size)) news).run P w = .ok () w') :
    (Builtin.append_ #[t, t] ty #[.slice base sLen sCap, .slice ao m c]).run P w = .ok (.slice base (sLen + m) sCap) w' := by
  have hf := hs.first (P := P) c
  cases base with
  | none =>
    simp only at hw; subst hw
    simp [Builtin.append_, run_underlying ht, run_sizeOf hTe, Builtin.lenOf, hroom, hf]
  | some b =>
    simp only at hw
    simp [Builtin.append_, run_underlying ht, run_sizeOf hTe, Builtin.lenOf, hroom, hf, hw]

theorem run_append_grows (t ty e : TypeId) {te : TS} (ht : P.underlying t = some (.slice e)) (hTe : TOk P e te) {z : Value} {i : TypeInfo} (hi : P.info? e = some i) (hz : i.zero = some z)
    (base : Option Addr) (sLen sCap : Nat) (olds : List Value) (ho : Src w te.size sLen base olds) (ao : Option Addr) (m c : Nat) (news : List Value)
    (hs : Src w te.size m ao news) (hg : sCap < sLen + m) (h63 : ((sLen + m : Nat) : Int) ≤ 9223372036854775807) (hfit : (sLen + m) * i.bytes ≤ 140737488355328) :
    (Builtin.append_ #[t, t] ty #[.slice base sLen sCap, .slice ao m c]).run P w =
      .ok (.slice (some ⟨w.heap.size, 0, none⟩) (sLen + m) (grownCap w (sLen + m) sCap e))
        (w.drew.alloc (.cells (olds.toArray ++ news.toArray ++ Builtin.zeroCells z.cells (grownCap w (sLen + m) sCap e - (sLen + m))) e)) := by
  have hn : ¬ (sLen + m ≤ sCap) := by omega
  have h63' : ¬ (9223372036854775807 < ((sLen : Int) + (m : Int))) := by omega
  have hfit2 := growslice_fits (old := sCap) hg hfit
  have h48' : ¬ (281474976710656 < Builtin.nextslicecap (sLen + m) sCap * i.bytes) := by omega
  have hf := hs.drew.first (P := P) c
  have hfo := ho.drew.first (P := P) sCap
  have hti : ∀ w : World, (typeInfo e).run P w = .ok i w := fun w => by simp [typeInfo, hi]
  have hzv : ∀ w : World, (zeroValue e).run P w = .ok z w := fun w => by simp [zeroValue, typeInfo, hi, hz]
  simp [Builtin.append_, run_underlying ht, run_sizeOf hTe, hti, hzv, Builtin.lenOf, hn, h63', h48', Question.forced, hf, hfo, newRow, grownCap]
  congr 2
  apply Array.ext'
  simp [List.append_assoc]

theorem le_grownCap (need old : Nat) (e : TypeId) : need ≤ grownCap w need old e := by simp only [grownCap, Question.cut]; omega

theorem Done.mkv {E' : Env} {x : Value} {w' : World} (hrun : (execOp a.eval o).run P w = .ok (.value x) w') (hm : Models E0 H0 w0 E' s' (a.put o.dst x) w') : Done P o E0 H0 w0 s' a w :=
  ⟨_, _, _, hrun, hm⟩

theorem exec_append {c : Call} {x y : Operand} {t t' : TypeId} (ho : o.op = .call c) (h1 : c.callee = .builtin .append) (h2 : c.args.toList = [x, y]) (h3 : c.argTypes.toList = [t, t']) :
    (execOp a.eval o).run P w = ((Builtin.append_ #[t, t'] o.type #[a.eval x, a.eval y]).run P w).andThen fun v w => .ok (.value v) w := by
  have e2 : c.args = #[x, y] := by rw [← Array.toArray_toList (xs := c.args), h2]
  have e3 : c.argTypes = #[t, t'] := by rw [← Array.toArray_toList (xs := c.argTypes), h3]
  have e4 : Array.map a.eval #[x, y] = #[a.eval x, a.eval y] := by simp
  simp only [execOp, ho, resolve, h1, e2, e3, e4, Sem.run_bind, Sem.run_pure, Result.andThen, invoke, builtin]

theorem storeRow_run (g off : Nat) (ty : TypeId) (news : List Value) (cur : Array Value) (hg : w.heap[g]? = some (.cells cur ty (0, 0))) (hle : off + news.length ≤ cur.size) (h1 : ∀ v ∈ news, v.oneCell' = true) :
    (storeCells ⟨g, off, none⟩ news).run P w = .ok () (w.setRow g (cur.toList.take off ++ news ++ cur.toList.drop (off + news.length)).toArray) := by
  have := run_storeCells_at P g off ty news 0 cur w hg (by simpa using hle) h1
  simpa only [Nat.add_zero] using this

theorem opAppend_sound {own : Nat → Bool} (hT : TTOk P T) (h : Models E0 H0 w0 E s a w) {c : Call} {x y : Operand} {t t' : TypeId} (ho : o.op = .call c) (h1 : c.callee = .builtin .append) (h2 : c.args.toList = [x, y])
    (h3 : c.argTypes.toList = [t, t']) (hf : opAppend T own s o.dst t t' (s.ev x) (s.ev y) = some s') (hc : s'.cond) : s.cond ∧ Done P o E0 H0 w0 s' a w := by
  have hex := exec_append (P := P) (a := a) (w := w) ho h1 h2 h3
  have hx := h.ev x
  have hy := h.ev y
  simp only [opAppend, Option.bind_eq_some_iff] at hf
  obtain ⟨ts, hts, hf⟩ := hf
  obtain ⟨_, ⟨i, d, z, hi', hu, hsz, hby, hk, _⟩⟩ := hT t ts hts
  cases hkk : ts.kind with
  | slice e =>
    rw [hkk] at hk hf
    cases hk
    simp only [Option.bind_eq_some_iff] at hf
    obtain ⟨te, hte, hf⟩ := hf
    have hTe := hT e te hte
    obtain ⟨_, ⟨ie, de, ze, hie, hue, hies, hieb, hke, hze, hzl, hzs, hzr⟩⟩ := hT e te hte
    cases hb : (Nat.ble 1 te.size && Nat.beq t t') with
    | false => rw [hb] at hf; cases hf
    | true =>
      rw [hb, cond_true] at hf
      rw [Bool.and_eq_true] at hb
      have hpos : 0 < te.size := Nat.le_of_ble_eq_true hb.1
      have htt : t = t' := Nat.eq_of_beq_eq_true hb.2
      subst htt
      simp only [Option.bind_eq_some_iff] at hf
      obtain ⟨src, hsrc, hf⟩ := hf
      -- the source, given its conditions
      have hsource : src.2.2 → (∀ i, i < src.1 → (src.2.1 i).length = te.size) → ∃ ao cap news, a.eval y = .slice ao src.1 cap ∧ Src w te.size src.1 ao news ∧ (∀ v ∈ news, v.oneCell' = true) ∧
          ∀ (i j : Nat) c, i < src.1 → (src.2.1 i)[j]? = some c → ∃ v, news[i * te.size + j]? = some v ∧ RepF E.F w c v := by
        intro k1 k2
        obtain ⟨ao, cap, e1, e2, e3⟩ := h.rows hy hsrc k1 te.size k2
        rcases Nat.eq_zero_or_pos src.1 with hz | hp
        · exact ⟨ao, cap, [], e1, ⟨by simp [hz], .inl rfl⟩, by simp, fun i j c hi => by omega⟩
        · obtain ⟨b, off, rfl, e4⟩ := e3 hp
          obtain ⟨news, n1, n2, n3, n4⟩ := rows_list hpos k2 e4
          exact ⟨_, cap, news, e1, ⟨n1, .inr ⟨_, rfl, n2⟩⟩, n3, n4⟩
      -- a new array that holds old rows and new ones
      have hgrown : ∀ (n : Nat) (row : Nat → List AV) (olds news : List Value) (sCap : Nat), (∀ i, i < n → (row i).length = te.size) → (∀ i, i < src.1 → (src.2.1 i).length = te.size) →
          olds.length = n * te.size → news.length = src.1 * te.size →
          (∀ (i j : Nat) c, i < n → (row i)[j]? = some c → ∃ v, olds[i * te.size + j]? = some v ∧ RepF E.F w c v) →
          (∀ (i j : Nat) c, i < src.1 → (src.2.1 i)[j]? = some c → ∃ v, news[i * te.size + j]? = some v ∧ RepF E.F w c v) →
          ∀ W', Same w W' → ∀ (i j : Nat) c, i < n + src.1 → (appendRow n row src.2.1 i)[j]? = some c →
            ∃ v, (olds.toArray ++ news.toArray ++ Builtin.zeroCells ze.cells (grownCap w (n + src.1) sCap e - (n + src.1)))[i * te.size + j]? = some v ∧ RepF E.F W' c v := by
        intro n row olds news sCap k1 k2 k3 k4 k5 k6 W' hW' i j c hi hj
        have hFW : ∀ b, E.F b → W'.heap[b]? = w.heap[b]? := fun b hb => hW'.block b (h.heap.frz b hb)
        have hjl : j < te.size := by
          have := get_lt hj
          simp only [appendRow] at this
          split at this
          · rw [k1 _ (by assumption)] at this; exact this
          · rw [k2 _ (by omega)] at this; exact this
        simp only [appendRow] at hj
        split at hj
        · rename_i hin
          obtain ⟨v, e1, e2⟩ := k5 i j c hin hj
          have hq : i * te.size + j < n * te.size := by
            have : (i + 1) * te.size ≤ n * te.size := Nat.mul_le_mul_right _ hin
            rw [Nat.add_mul, Nat.one_mul] at this
            omega
          refine ⟨v, ?_, e2.mono (fun _ h => h) hFW⟩
          rw [Array.getElem?_append_left (by simp; omega), Array.getElem?_append_left (by simp; omega), List.getElem?_toArray]; exact e1
        · rename_i hin
          obtain ⟨v, e1, e2⟩ := k6 (i - n) j c (by omega) hj
          have hi2 : i * te.size = n * te.size + (i - n) * te.size := by rw [← Nat.add_mul]; congr 1; omega
          have hq : (i - n) * te.size + j < src.1 * te.size := by
            have : (i - n + 1) * te.size ≤ src.1 * te.size := Nat.mul_le_mul_right _ (by omega)
            rw [Nat.add_mul, Nat.one_mul] at this
            omega
          refine ⟨v, ?_, e2.mono (fun _ h => h) hFW⟩
          rw [Array.getElem?_append_left (by simp; omega), Array.getElem?_append_right (by simp; omega), List.getElem?_toArray]
          rw [← e1]; congr 1; simp; omega
      have hsize : ∀ (n : Nat) (olds news : List Value) (sCap : Nat), olds.length = n * te.size → news.length = src.1 * te.size →
          grownCap w (n + src.1) sCap e * te.size ≤ (olds.toArray ++ news.toArray ++ Builtin.zeroCells ze.cells (grownCap w (n + src.1) sCap e - (n + src.1))).size := by
        intro n olds news sCap k3 k4
        have hle := le_grownCap (w := w) (n + src.1) sCap e
        simp only [Array.size_append, List.size_toArray, k3, k4, size_zeroCells, hzl, hzs]
        rw [← Nat.add_mul, ← Nat.add_mul]
        exact Nat.mul_le_mul_right _ (by omega)
      -- a new array, frozen at once
      have hfrozen : ∀ (news : List Value) {ao : Option Addr} {c0 : Prop}, (src.1 : Int) ≤ 9223372036854775807 → Src w te.size src.1 ao news → (∀ i, i < src.1 → (src.2.1 i).length = te.size) →
          (∀ (i j : Nat) c, i < src.1 → (src.2.1 i)[j]? = some c → ∃ v, news[i * te.size + j]? = some v ∧ RepF E.F w c v) → (s.need c0).setd o.dst (.list src.1 (fz src.1 src.2.1)) = some s' →
          (execOp a.eval o).run P w = .ok (.value (.slice (some ⟨w.heap.size, 0, none⟩) (0 + src.1) (grownCap w (0 + src.1) 0 e))) (w.drew.alloc (.cells (([] : List Value).toArray ++ news.toArray ++ Builtin.zeroCells ze.cells (grownCap w (0 + src.1) 0 e - (0 + src.1))) e)) →
          Done P o E0 H0 w0 s' a w := by
        intro news ao c0 k3 hs k4 hnews hf hex
        have hsame : Same w (w.drew.alloc (.cells (([] : List Value).toArray ++ news.toArray ++ Builtin.zeroCells ze.cells (grownCap w (0 + src.1) 0 e - (0 + src.1))) e)) := (Same.drew w).trans (Same.alloc _ _)
        obtain ⟨hm, hsl⟩ := h.newArr hsame w.heap.size (Nat.le_refl _) _ e (heap_alloc_new w.drew _) te.size (0 + src.1) (grownCap w (0 + src.1) 0 e) src.2.1 hpos (le_grownCap _ _ _) (grownCap_le_maxLen w _ _ _ (by simp only [maxLen]; omega)) (hsize 0 [] news 0 (by simp) hs.1)
          (fun i hi => k4 i (by omega)) (fun i j c hi hj => by
            have := hgrown 0 (fun _ => []) [] news 0 (fun i hi => by omega) k4 (by simp) hs.1 (fun i j c hi => by omega) hnews _ hsame i j c hi (by simp only [appendRow]; rw [if_neg (by omega), Nat.sub_zero]; exact hj)
            exact this)
        have hN := h.heap.len
        have hm2 := h.newF hsame w.heap.size (Nat.le_refl _) (by simp)
        have hobj : ArrRep (E.new (some w.heap.size) te.size (grownCap w (0 + src.1) 0 e) 0) _ s.hp.length te.size (0 + src.1) (fz (0 + src.1) src.2.1) := hm.heap.obj s.hp.length (.arr te.size (0 + src.1) (fz (0 + src.1) src.2.1)) (by simp)
        have hfz := sl_frozen hobj (hsl (0 + src.1) (Nat.le_refl _)) (by omega) (F := fun b => E.F b ∨ b = w.heap.size) (fun b hb => .inl hb) (fun b hb => by
          rw [new_ρ hN] at hb; cases hb; exact .inr rfl)
        refine Done.mkv hex ((hm2.cond _).setd hf (.fz _ _ ?_))
        simp only [Nat.zero_add] at hfz ⊢
        exact hfz.congr fun i _ => by simp only [dropRow, Nat.zero_add]
      cases hv : s.ev x with
      | nilsl =>
        rw [hv] at hf hx
        cases hown : own (o.dst.getD 0) with
        | false =>
          rw [hown, cond_false] at hf
          obtain ⟨hc1, k1, k2, k3, k4⟩ := need_setd hf hc
          refine ⟨hc1, ?_⟩
          obtain ⟨ao, cap, news, hay, hs, hone, hnews⟩ := hsource k1 k4
          generalize hax : a.eval x = ax at hx hex
          cases hx with
          | fz _ _ hx =>
          cases hx
          rw [hay] at hex
          rcases Nat.eq_zero_or_pos src.1 with hz0 | hp0
          · have hrun := run_append_inplace (P := P) (w' := w) t o.type e hu hTe none 0 0 ao src.1 cap news hs (by omega) rfl
            rw [hrun] at hex
            simp only [Result.andThen] at hex
            refine Done.mkv hex ((h.cond _).setd hf (.fz _ _ ?_))
            rw [hz0]; exact .empty _ _ _
          · have hrun := run_append_grows (P := P) t o.type e hu hTe hie hze none 0 0 [] ⟨by simp, .inl rfl⟩ ao src.1 cap news hs (by omega) (by simpa using k3) (by rw [hieb]; simpa using k2)
            rw [hrun] at hex
            simp only [Result.andThen] at hex
            exact hfrozen news k3 hs k4 hnews hf hex
        | true =>
        rw [hown, cond_true] at hf
        have hcc := need_setd hf hc
        obtain ⟨hc1, k1, k2, k3, k4⟩ := hcc
        refine ⟨hc1, ?_⟩
        obtain ⟨ao, cap, news, hay, hs, hone, hnews⟩ := hsource k1 k4
        generalize hax : a.eval x = ax at hx hex
        cases hx with
        | fz _ _ hx =>
          cases hx
          rw [hay] at hex
          rcases Nat.eq_zero_or_pos src.1 with hz0 | hp0
          · have hrun := run_append_inplace (P := P) (w' := w) t o.type e hu hTe none 0 0 ao src.1 cap news hs (by omega) rfl
            rw [hrun] at hex
            simp only [Result.andThen] at hex
            have hm := h.newObj (Same.refl w) (r := none) (sg := te.size) (kp := 0) (om := 0) (ob := .arr te.size src.1 (fz src.1 src.2.1)) (fun b hb => by cases hb)
              (ArrRep.fz ⟨new_σ h.heap.len _ _ _ _, hpos, by rw [new_κ h.heap.len]; omega, by rw [new_κ h.heap.len]; omega, k4, by rw [new_ρ h.heap.len, new_κ h.heap.len]; exact ⟨hz0, rfl⟩⟩)
            refine Done.mkv hex ((hm.cond _).setd hf (?_))
            have := Rep.sl (E := E.new none te.size 0 0) (w := w) s.hp.length 0 src.1 none (by show _ < E.N + 1; have := h.heap.len; omega) (by rw [new_κ h.heap.len]; omega) (fun hlt => by rw [new_κ h.heap.len] at hlt; omega)
            rw [new_κ h.heap.len] at this
            rw [hz0] at this ⊢
            exact this
          · have hrun := run_append_grows (P := P) t o.type e hu hTe hie hze none 0 0 [] ⟨by simp, .inl rfl⟩ ao src.1 cap news hs (by omega) (by simpa using k3) (by rw [hieb]; simpa using k2)
            rw [hrun] at hex
            simp only [Result.andThen] at hex
            have hsame : Same w (w.drew.alloc (.cells (([] : List Value).toArray ++ news.toArray ++ Builtin.zeroCells ze.cells (grownCap w (0 + src.1) 0 e - (0 + src.1))) e)) := (Same.drew w).trans (Same.alloc _ _)
            obtain ⟨hm, hsl⟩ := h.newArr hsame w.heap.size (Nat.le_refl _) _ e (heap_alloc_new w.drew _) te.size (0 + src.1) (grownCap w (0 + src.1) 0 e) src.2.1 hpos (le_grownCap _ _ _) (grownCap_le_maxLen w _ _ _ (by simp only [maxLen]; omega)) (hsize 0 [] news 0 (by simp) hs.1)
              (fun i hi => k4 i (by omega)) (fun i j c hi hj => by
                have := hgrown 0 (fun _ => []) [] news 0 (fun i hi => by omega) k4 (by simp) hs.1 (fun i j c hi => by omega) hnews _ hsame i j c hi (by simp only [appendRow]; rw [if_neg (by omega), Nat.sub_zero]; exact hj)
                exact this)
            have hh := hsl (0 + src.1) (Nat.le_refl _)
            simp only [Nat.zero_add] at hm hh hex
            exact Done.mkv hex ((hm.cond _).setd hf (hh))
      | zsl =>
        rw [hv] at hf hx
        cases hown : own (o.dst.getD 0) with
        | false =>
          rw [hown, cond_false] at hf
          obtain ⟨hc1, k1, k2, k3, k4⟩ := need_setd hf hc
          refine ⟨hc1, ?_⟩
          obtain ⟨ao, cap, news, hay, hs, hone, hnews⟩ := hsource k1 k4
          generalize hax : a.eval x = ax at hx hex
          cases hx with
          | fz _ _ hx =>
          cases hx with
          | zsl av =>
          rw [hay] at hex
          rcases Nat.eq_zero_or_pos src.1 with hz0 | hp0
          · have hrun := run_append_inplace (P := P) (w' := w) t o.type e hu hTe av 0 0 ao src.1 cap news hs (by omega) (by
              cases av with
              | none => rfl
              | some ad =>
                have hn0 : news = [] := by
                  have := hs.1; rw [hz0, Nat.zero_mul] at this; exact List.length_eq_zero_iff.1 this
                subst hn0; rfl)
            rw [hrun] at hex
            simp only [Result.andThen] at hex
            refine Done.mkv hex ((h.cond _).setd hf (.fz _ _ ?_))
            rw [hz0]; exact .empty _ _ _
          · have hrun := run_append_grows (P := P) t o.type e hu hTe hie hze av 0 0 [] ⟨by simp, .inl rfl⟩ ao src.1 cap news hs (by omega) (by simpa using k3) (by rw [hieb]; simpa using k2)
            rw [hrun] at hex
            simp only [Result.andThen] at hex
            exact hfrozen news k3 hs k4 hnews hf hex
        | true =>
        rw [hown, cond_true] at hf
        have hcc := need_setd hf hc
        obtain ⟨hc1, k1, k2, k3, k4⟩ := hcc
        refine ⟨hc1, ?_⟩
        obtain ⟨ao, cap, news, hay, hs, hone, hnews⟩ := hsource k1 k4
        generalize hax : a.eval x = ax at hx hex
        cases hx with
        | fz _ _ hx =>
          cases hx with
          | zsl av =>
          rw [hay] at hex
          rcases Nat.eq_zero_or_pos src.1 with hz0 | hp0
          · have hrun := run_append_inplace (P := P) (w' := w) t o.type e hu hTe av 0 0 ao src.1 cap news hs (by omega) (by
              cases av with
              | none => rfl
              | some ad =>
                have hn0 : news = [] := by
                  have := hs.1; rw [hz0, Nat.zero_mul] at this; exact List.length_eq_zero_iff.1 this
                subst hn0; rfl)
            rw [hrun] at hex
            simp only [Result.andThen] at hex
            have hm := h.newObj (Same.refl w) (r := none) (sg := te.size) (kp := 0) (om := 0) (ob := .arr te.size src.1 (fz src.1 src.2.1)) (fun b hb => by cases hb)
              (ArrRep.fz ⟨new_σ h.heap.len _ _ _ _, hpos, by rw [new_κ h.heap.len]; omega, by rw [new_κ h.heap.len]; omega, k4, by rw [new_ρ h.heap.len, new_κ h.heap.len]; exact ⟨hz0, rfl⟩⟩)
            refine Done.mkv hex ((hm.cond _).setd hf (?_))
            have := Rep.sl (E := E.new none te.size 0 0) (w := w) s.hp.length 0 src.1 av (by show _ < E.N + 1; have := h.heap.len; omega) (by rw [new_κ h.heap.len]; omega) (fun hlt => by rw [new_κ h.heap.len] at hlt; omega)
            rw [new_κ h.heap.len] at this
            rw [hz0] at this ⊢
            exact this
          · have hrun := run_append_grows (P := P) t o.type e hu hTe hie hze av 0 0 [] ⟨by simp, .inl rfl⟩ ao src.1 cap news hs (by omega) (by simpa using k3) (by rw [hieb]; simpa using k2)
            rw [hrun] at hex
            simp only [Result.andThen] at hex
            have hsame : Same w (w.drew.alloc (.cells (([] : List Value).toArray ++ news.toArray ++ Builtin.zeroCells ze.cells (grownCap w (0 + src.1) 0 e - (0 + src.1))) e)) := (Same.drew w).trans (Same.alloc _ _)
            obtain ⟨hm, hsl⟩ := h.newArr hsame w.heap.size (Nat.le_refl _) _ e (heap_alloc_new w.drew _) te.size (0 + src.1) (grownCap w (0 + src.1) 0 e) src.2.1 hpos (le_grownCap _ _ _) (grownCap_le_maxLen w _ _ _ (by simp only [maxLen]; omega)) (hsize 0 [] news 0 (by simp) hs.1)
              (fun i hi => k4 i (by omega)) (fun i j c hi hj => by
                have := hgrown 0 (fun _ => []) [] news 0 (fun i hi => by omega) k4 (by simp) hs.1 (fun i j c hi => by omega) hnews _ hsame i j c hi (by simp only [appendRow]; rw [if_neg (by omega), Nat.sub_zero]; exact hj)
                exact this)
            have hh := hsl (0 + src.1) (Nat.le_refl _)
            simp only [Nat.zero_add] at hm hh hex
            exact Done.mkv hex ((hm.cond _).setd hf (hh))
      | sl id b n =>
        rw [hv] at hf hx
        simp only at hf
        cases hid : s.hp[id]? with
        | none => rw [hid] at hf; cases hf
        | some ob =>
          cases ob with
          | arr sz nn row =>
            rw [hid] at hf
            simp only at hf
            cases hbq : Nat.beq sz te.size with
            | false => rw [hbq] at hf; cases hf
            | true =>
              rw [hbq, cond_true] at hf
              have hsz2 : sz = te.size := Nat.eq_of_beq_eq_true hbq
              subst hsz2
              cases hown4 : own (o.dst.getD 0 + 4000) with
              | true =>
                rw [hown4, cond_true] at hf
                obtain ⟨hc1, k1, kb, k4⟩ := need_setd hf hc
                refine ⟨hc1, ?_⟩
                obtain ⟨ao, cap, news, hay, hs, hone, hnews⟩ := hsource k1 k4
                obtain ⟨g1, g2, g3, g4, g5, g6⟩ := h.heap.obj id _ hid
                generalize hax : a.eval x = ax at hx hex
                cases hx with
                | fz _ _ hx => cases hx
                | sl _ _ _ av hi hle ha =>
                  rw [hay] at hex
                  have hroom : n + src.1 ≤ E.κ id - b := by omega
                  rcases Nat.eq_zero_or_pos src.1 with hz0 | hp0
                  · have hnews0 : news = [] := by
                      have := hs.1; rw [hz0, Nat.zero_mul] at this; exact List.length_eq_zero_iff.1 this
                    have hrun := run_append_inplace (P := P) (w' := w) t o.type e hu hTe av n (E.κ id - b) ao src.1 cap news hs hroom (by
                      cases av with
                      | none => rfl
                      | some ad => subst hnews0; rfl)
                    rw [hrun] at hex
                    simp only [Result.andThen] at hex
                    have hrow : copyRow (b + n) src.1 row src.2.1 = row := by funext i; simp only [copyRow]; rw [if_neg (by omega)]
                    rw [hrow] at hf
                    refine Done.mkv hex ((((h.rowEq hid fun i hi => (fz_get hi).symm)).cond _).setd hf ?_)
                    rw [hz0]
                    exact Rep.sl id b (n + 0) av hi hle ha
                  · have hav := ha (by omega)
                    cases hρ : E.ρ id with
                    | none => rw [hρ] at g6; omega
                    | some blk =>
                      rw [hρ] at g6
                      rw [hρ] at hav
                      simp only [Option.map_some, g1] at hav
                      subst hav
                      obtain ⟨arr, ty, e1, e2, e3⟩ := g6
                      have hfit : (E.ω id + b) * te.size + n * te.size + news.length ≤ arr.size := by
                        rw [hs.1, ← Nat.add_mul, ← Nat.add_mul]
                        exact Nat.le_trans (Nat.mul_le_mul_right _ (by omega)) e2
                      have hst := storeRow_run (P := P) (w := w) blk ((E.ω id + b) * te.size + n * te.size) ty news arr e1 hfit hone
                      have hrun := run_append_inplace (P := P) t o.type e hu hTe (some ⟨blk, (E.ω id + b) * te.size, none⟩) n (E.κ id - b) ao src.1 cap news hs hroom (by simp only [addr_add]; exact hst)
                      rw [hrun] at hex
                      simp only [Result.andThen] at hex
                      have honly := Only.setRow w blk (arr.toList.take ((E.ω id + b) * te.size + n * te.size) ++ news ++ arr.toList.drop ((E.ω id + b) * te.size + n * te.size + news.length)).toArray
                      have hlive : Live s.hp id := ⟨_, hid, by simp⟩
                      have hFW : ∀ bb, E.F bb → _ = w.heap[bb]? := fun bb hbb => honly.block bb (fun e => h.heap.fr id blk hlive hρ (e ▸ hbb))
                      have hm := h.writeObj (ob' := .arr te.size nn (fz nn (copyRow (b + n) src.1 row src.2.1))) hid (by simp) hρ honly
                        (ArrRep.fz ⟨g1, hpos, g3, g4, fun i hi => by
                            simp only [copyRow]; split
                            · exact k4 _ (by omega)
                            · exact g5 i hi, by
                          rw [hρ]
                          refine ⟨_, ty, setRow_heap _ _ _ _ _ _ e1, ?_, fun i j c hi hj => ?_⟩
                          · simp only [List.size_toArray, List.length_append, List.length_take, List.length_drop, Array.length_toList]; omega
                          · rw [List.getElem?_toArray, spliceGet _ _ _ _ (by rw [Array.length_toList]; omega)]
                            have hjl : j < te.size := by
                              have := get_lt hj
                              simp only [copyRow] at this
                              split at this
                              · rw [k4 _ (by omega)] at this; exact this
                              · rw [g5 i hi] at this; exact this
                            have hbn : (E.ω id + b) * te.size + n * te.size = (E.ω id + (b + n)) * te.size := by rw [← Nat.add_mul]; congr 1; omega
                            have hnl := hs.1
                            simp only [copyRow] at hj
                            split at hj
                            · rename_i hin
                              obtain ⟨v, q1, q2⟩ := hnews (i - (b + n)) j c (by omega) hj
                              have hi2 : (E.ω id + i) * te.size = (E.ω id + (b + n)) * te.size + (i - (b + n)) * te.size := by rw [← Nat.add_mul]; congr 1; omega
                              have : (i - (b + n) + 1) * te.size ≤ src.1 * te.size := Nat.mul_le_mul_right _ (by omega)
                              rw [Nat.add_mul, Nat.one_mul] at this
                              rw [if_neg (by omega), if_pos (by omega)]
                              refine ⟨v, ?_, q2.mono (fun _ h => h) hFW⟩
                              rw [← q1]; congr 1; omega
                            · rename_i hin
                              obtain ⟨v, q1, q2⟩ := e3 i j c hi hj
                              refine ⟨v, ?_, q2.mono (fun _ h => h) hFW⟩
                              by_cases hlo : i < b + n
                              · have : (E.ω id + i + 1) * te.size ≤ (E.ω id + (b + n)) * te.size := Nat.mul_le_mul_right _ (by omega)
                                rw [Nat.add_mul _ 1, Nat.one_mul] at this
                                rw [if_pos (by omega)]
                                simpa using q1
                              · have : (E.ω id + (b + n)) * te.size + src.1 * te.size ≤ (E.ω id + i) * te.size := by rw [← Nat.add_mul]; exact Nat.mul_le_mul_right _ (by omega)
                                rw [if_neg (by omega), if_neg (by omega)]
                                simpa using q1⟩)
                      refine Done.mkv hex ((hm.cond _).setd hf ?_)
                      refine Rep.sl id b (n + src.1) _ hi (by omega) (fun hlt => ?_)
                      rw [hρ]; simp only [Option.map_some, g1]
              | false =>
              rw [hown4, cond_false] at hf
              obtain ⟨hc1, k1, kb, k2, k3, k4⟩ := need_setd hf hc
              refine ⟨hc1, ?_⟩
              obtain ⟨ao, cap, news, hay, hs, hone, hnews⟩ := hsource k1 k4
              obtain ⟨g1, g2, g3, g4, g5, g6⟩ := h.heap.obj id _ hid
              generalize hax : a.eval x = ax at hx hex
              cases hx with
              | fz _ _ hx => cases hx
              | sl _ _ _ av hi hle ha =>
                rw [hay] at hex
                have hidN : id < E.N := hi
                have hN := h.heap.len
                have hκle : E.κ id ≤ 9223372036854775807 := g4
                have hrl : ∀ i, i < n → (dropRow b row i).length = te.size := fun i hi => g5 _ (by omega)
                -- what is there of old rows
                have holds : ∃ olds, Src w te.size n av olds ∧ ∀ (i j : Nat) c, i < n → (row (b + i))[j]? = some c → ∃ v, olds[i * te.size + j]? = some v ∧ RepF E.F w c v := by
                  rcases Nat.eq_zero_or_pos n with hn0 | hn0
                  · exact ⟨[], ⟨by simp [hn0], .inl rfl⟩, fun i j c hi => by omega⟩
                  · obtain ⟨ao2, cap2, e1, e2, e3⟩ := h.rows (v := .sl id b n) (x := .slice av n (E.κ id - b)) ((Rep.sl id b n av hi hle ha)) (m := (n, fz n (dropRow b row), b + n ≤ nn)) (by simp only [St.rows, hid]) (by simp only; omega) te.size (fun i hi => by show (fz n (dropRow b row) i).length = _; rw [fz_get (by simpa using hi)]; exact hrl i (by simpa using hi))
                    injection e1 with e1a e1b e1c
                    subst e1a
                    obtain ⟨bb, off, rfl, e4⟩ := e3 hn0
                    obtain ⟨olds, n1, n2, n3, n4⟩ := rows_list hpos hrl (fun i j c hi hj => e4 i j c hi (by show (fz n (dropRow b row) i)[j]? = _; rw [fz_get hi]; exact hj))
                    exact ⟨olds, ⟨n1, .inr ⟨_, rfl, n2⟩⟩, n4⟩
                obtain ⟨olds, hso, holdr⟩ := holds
                by_cases hroom : n + src.1 ≤ E.κ id - b
                · -- within the capacity
                  by_cases hκb : b < E.κ id
                  · have hav := ha hκb
                    cases hρ : E.ρ id with
                    | none => rw [hρ] at g6; omega
                    | some blk =>
                      rw [hρ] at g6 hav
                      simp only [Option.map_some, g1] at hav
                      subst hav
                      obtain ⟨arr, ty, e1, e2, e3⟩ := g6
                      have hfit : (E.ω id + b) * te.size + n * te.size + news.length ≤ arr.size := by
                        rw [hs.1, ← Nat.add_mul, ← Nat.add_mul]
                        exact Nat.le_trans (Nat.mul_le_mul_right _ (by omega)) e2
                      have hst := storeRow_run (P := P) (w := w) blk ((E.ω id + b) * te.size + n * te.size) ty news arr e1 hfit hone
                      have hrun := run_append_inplace (P := P) t o.type e hu hTe (some ⟨blk, (E.ω id + b) * te.size, none⟩) n (E.κ id - b) ao src.1 cap news hs hroom (by simp only [addr_add]; exact hst)
                      rw [hrun] at hex
                      simp only [Result.andThen] at hex
                      have honly := Only.setRow w blk (arr.toList.take ((E.ω id + b) * te.size + n * te.size) ++ news ++ arr.toList.drop ((E.ω id + b) * te.size + n * te.size + news.length)).toArray
                      have hlive : Live s.hp id := ⟨_, hid, by simp⟩
                      have hFW : ∀ bb, E.F bb → _ = w.heap[bb]? := fun bb hbb => honly.block bb (fun e => h.heap.fr id blk hlive hρ (e ▸ hbb))
                      have hm := h.moveObj (r := some blk) (sg := te.size) (kp := E.κ id - b) (om := E.ω id + b) (ob' := .arr te.size (n + src.1) (fz (n + src.1) (appendRow n (dropRow b row) src.2.1))) hid (by simp) honly.os honly.tape honly.output (fun a _ => honly.frz a) (fun _ => by rw [honly.drawn]; exact Nat.le_refl _) (by rw [honly.size]; exact Nat.le_refl _)
                        (fun bb _ hne => honly.block bb (fun e => hne (by rw [e]; exact hρ))) (fun bb hbb => by cases hbb; exact ⟨by rw [honly.size]; exact (Array.getElem?_eq_some_iff.1 e1).1, .inl hρ⟩)
                        (ArrRep.fz ⟨new_σ hN _ _ _ _, hpos, by rw [new_κ hN]; exact hroom, by rw [new_κ hN]; omega, fun i hi => by
                            simp only [appendRow]; split
                            · exact g5 _ (by omega)
                            · exact k4 _ (by omega), by
                          rw [new_ρ hN, new_κ hN, new_ω hN]
                          refine ⟨_, ty, setRow_heap _ _ _ _ _ _ e1, ?_, fun i j c hi hj => ?_⟩
                          · have : (E.ω id + b + (E.κ id - b)) = E.ω id + E.κ id := by omega
                            rw [this]
                            simp only [List.size_toArray, List.length_append, List.length_take, List.length_drop, Array.length_toList]
                            omega
                          · rw [List.getElem?_toArray, spliceGet _ _ _ _ (by rw [Array.length_toList]; omega)]
                            have hjl : j < te.size := by
                              have := get_lt hj
                              simp only [appendRow, dropRow] at this
                              split at this
                              · rw [g5 _ (by omega)] at this; exact this
                              · rw [k4 _ (by omega)] at this; exact this
                            have hi2 : (E.ω id + b + i) * te.size = (E.ω id + b) * te.size + i * te.size := Nat.add_mul _ _ _
                            simp only [appendRow, dropRow] at hj
                            split at hj
                            · rename_i hin
                              have : (i + 1) * te.size ≤ n * te.size := Nat.mul_le_mul_right _ hin
                              rw [Nat.add_mul, Nat.one_mul] at this
                              obtain ⟨v, f1, f2⟩ := e3 (b + i) j c (by omega) hj
                              rw [if_pos (by omega)]
                              refine ⟨v, ?_, f2.mono (fun _ h => h) hFW⟩
                              rw [← Nat.add_assoc] at f1
                              simpa using f1
                            · rename_i hin
                              have hi3 : i * te.size = n * te.size + (i - n) * te.size := by rw [← Nat.add_mul]; congr 1; omega
                              have : (i - n + 1) * te.size ≤ src.1 * te.size := Nat.mul_le_mul_right _ (by omega)
                              rw [Nat.add_mul, Nat.one_mul] at this
                              have hnl := hs.1
                              obtain ⟨v, f1, f2⟩ := hnews (i - n) j c (by omega) hj
                              rw [if_neg (by omega), if_pos (by omega)]
                              refine ⟨v, ?_, f2.mono (fun _ h => h) hFW⟩
                              rw [← f1]; congr 1; omega⟩)
                      refine Done.mkv hex ((hm.cond _).setd hf ?_)
                      have := Rep.sl (E := E.new (some blk) te.size (E.κ id - b) (E.ω id + b)) (w := w.setRow blk (arr.toList.take ((E.ω id + b) * te.size + n * te.size) ++ news ++ arr.toList.drop ((E.ω id + b) * te.size + n * te.size + news.length)).toArray)
                        s.hp.length 0 (n + src.1) (some ⟨blk, (E.ω id + b) * te.size, none⟩) (by show _ < E.N + 1; omega) (by rw [new_κ hN]; omega) (fun _ => by rw [new_ρ hN, new_ω hN, new_σ hN]; simp only [Option.map_some, Nat.add_zero])
                      rw [new_κ hN, Nat.sub_zero] at this
                      exact this
                  · -- no capacity at all: nothing is appended
                    have hn0 : n = 0 := by omega
                    have hm0 : src.1 = 0 := by omega
                    have hnews0 : news = [] := by
                      have := hs.1; rw [hm0, Nat.zero_mul] at this; exact List.length_eq_zero_iff.1 this
                    have hrun := run_append_inplace (P := P) (w' := w) t o.type e hu hTe av n (E.κ id - b) ao src.1 cap news hs hroom (by
                      cases av with
                      | none => rfl
                      | some ad => subst hnews0; rfl)
                    rw [hrun] at hex
                    simp only [Result.andThen] at hex
                    have hm := h.moveObj (w' := w) (r := none) (sg := te.size) (kp := 0) (om := 0) (ob' := .arr te.size (n + src.1) (fz (n + src.1) (appendRow n (dropRow b row) src.2.1))) hid (by simp) rfl rfl rfl (fun _ _ => rfl) (fun _ => Nat.le_refl _) (Nat.le_refl _)
                      (fun _ _ _ => rfl) (fun bb hbb => by cases hbb) (ArrRep.fz ⟨new_σ hN _ _ _ _, hpos, by rw [new_κ hN]; omega, by rw [new_κ hN]; omega, fun i hi => by omega, by rw [new_ρ hN, new_κ hN]; exact ⟨by omega, rfl⟩⟩)
                    refine Done.mkv hex ((hm.cond _).setd hf ?_)
                    have := Rep.sl (E := E.new none te.size 0 0) (w := w) s.hp.length 0 (n + src.1) av (by show _ < E.N + 1; omega) (by rw [new_κ hN]; omega) (fun hlt => by rw [new_κ hN] at hlt; omega)
                    rw [new_κ hN] at this
                    rw [show E.κ id - b = 0 - 0 by omega]
                    exact this
                · -- a new array
                  have hrun := run_append_grows (P := P) t o.type e hu hTe hie hze av n (E.κ id - b) olds hso ao src.1 cap news hs (by omega) k3 (by rw [hieb]; exact k2)
                  rw [hrun] at hex
                  simp only [Result.andThen] at hex
                  have hsame : Same w (w.drew.alloc (.cells (olds.toArray ++ news.toArray ++ Builtin.zeroCells ze.cells (grownCap w (n + src.1) (E.κ id - b) e - (n + src.1))) e)) := (Same.drew w).trans (Same.alloc _ _)
                  have hm := h.moveObj (r := some w.heap.size) (sg := te.size) (kp := grownCap w (n + src.1) (E.κ id - b) e) (om := 0) (ob' := .arr te.size (n + src.1) (fz (n + src.1) (appendRow n (dropRow b row) src.2.1))) hid (by simp) hsame.os hsame.tape hsame.output hsame.frz hsame.drawn hsame.size
                    (fun bb hbb _ => hsame.block bb hbb) (fun bb hbb => by cases hbb; exact ⟨by simp, .inr (Nat.le_refl _)⟩)
                    (ArrRep.fz ⟨new_σ hN _ _ _ _, hpos, by rw [new_κ hN]; exact le_grownCap _ _ _, by rw [new_κ hN]; exact grownCap_le_maxLen w _ _ _ (by simp only [maxLen]; omega), fun i hi => by
                        simp only [appendRow]; split
                        · exact g5 _ (by omega)
                        · exact k4 _ (by omega), by
                      rw [new_ρ hN, new_κ hN, new_ω hN]
                      refine ⟨_, e, heap_alloc_new w.drew _, by rw [Nat.zero_add]; exact hsize n olds news _ hso.1 hs.1, fun i j c hi hj => ?_⟩
                      rw [Nat.zero_add]
                      exact hgrown n (dropRow b row) olds news (E.κ id - b) hrl k4 hso.1 hs.1 holdr hnews _ hsame i j c hi hj⟩)
                  refine Done.mkv hex ((hm.cond _).setd hf ?_)
                  have := Rep.sl (E := E.new (some w.heap.size) te.size (grownCap w (n + src.1) (E.κ id - b) e) 0) (w := w.drew.alloc (.cells (olds.toArray ++ news.toArray ++ Builtin.zeroCells ze.cells (grownCap w (n + src.1) (E.κ id - b) e - (n + src.1))) e))
                    s.hp.length 0 (n + src.1) (some ⟨w.heap.size, 0, none⟩) (by show _ < E.N + 1; omega) (by rw [new_κ hN, Nat.zero_add]; exact le_grownCap _ _ _) (fun _ => by rw [new_ρ hN, new_ω hN]; simp)
                  rw [new_κ hN, Nat.sub_zero] at this
                  exact this
          | _ => rw [hid] at hf; cases hf
      | _ => rw [hv] at hf; cases hf
  | _ => rw [hkk] at hf; cases hf

end
end Go.Av

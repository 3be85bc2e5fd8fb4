/- The Av framework: slices that are made. No law is proved here. -/
import Derived.Test.YtgbgmijighbfbaaGv9
set_option linter.unusedSimpArgs false
set_option linter.unusedVariables false
set_option linter.unusedSectionVars false
namespace Go.Av

theorem replicate_flatten_get {α : Type} (zl : List α) (hz : 0 < zl.length) : ∀ (n q : Nat), q < n * zl.length → ((List.replicate n zl).flatten)[q]? = zl[q % zl.length]?
  | 0, q, h => by simp at h
  | n + 1, q, h => by
    rw [List.replicate_succ, List.flatten_cons]
    rcases Nat.lt_or_ge q zl.length with g | g
    · rw [List.getElem?_append_left g, Nat.mod_eq_of_lt g]
    · rw [List.getElem?_append_right g, replicate_flatten_get zl hz n _ (by rw [Nat.add_mul, Nat.one_mul] at h; omega)]
      congr 1
      exact (Nat.mod_eq_sub_mod g).symm

theorem replicate_flatten_length {α : Type} (zl : List α) (n : Nat) : ((List.replicate n zl).flatten).length = n * zl.length := by simp [List.length_flatten]

theorem zeroRange_get (zs : Array Value) (hz : 0 < zs.size) (m q : Nat) (hq : q < m) : ((Array.range m).map (fun i => zs[i % zs.size]!))[q]? = zs[q % zs.size]? := by
  have h1 : q % zs.size < zs.size := Nat.mod_lt _ hz
  simp [hq, getElem!_def, h1]

section
variable {E0 : Env} {H0 : List AObj} {w0 : World} {E : Env} {s s' : St} {a : Act} {w : World} {P : Program} {T : TT} {o : Oper}

theorem wrap_id {n : Int} (h0 : 0 ≤ n) (h1 : n ≤ 9223372036854775807) : IntKind.i64.wrap n = n := by
  simp only [IntKind.wrap, IntKind.bits, IntKind.signed]
  have : n % (2 ^ 64 : Int) = n := Int.emod_eq_of_lt h0 (by omega)
  simp only [this]
  rw [if_neg]
  simp; omega

theorem new_ρ {n : Nat} (hN : E.N = n) (r sg kp om) : (E.new r sg kp om).ρ n = r := if_pos hN.symm
theorem new_σ {n : Nat} (hN : E.N = n) (r sg kp om) : (E.new r sg kp om).σ n = sg := if_pos hN.symm
theorem new_κ {n : Nat} (hN : E.N = n) (r sg kp om) : (E.new r sg kp om).κ n = kp := if_pos hN.symm
theorem new_ω {n : Nat} (hN : E.N = n) (r sg kp om) : (E.new r sg kp om).ω n = om := if_pos hN.symm

/-- A new array of rows, and the slice over its head. -/
theorem Models.newArr (h : Models E0 H0 w0 E s a w) {w' : World} (hs : Same w w') (g : Nat) (hg : w.heap.size ≤ g) (arr : Array Value) (ty : TypeId) (hgw : w'.heap[g]? = some (.cells arr ty (0, 0)))
    (sz n cap : Nat) (row : Nat → List AV) (hpos : 0 < sz) (hnc : n ≤ cap) (hcap : cap ≤ 9223372036854775807) (hsize : cap * sz ≤ arr.size) (hl : ∀ i, i < n → (row i).length = sz)
    (hr : ∀ (i j : Nat) c, i < n → (row i)[j]? = some c → ∃ v, arr[i * sz + j]? = some v ∧ RepF E.F w' c v) :
    Models E0 H0 w0 (E.new (some g) sz cap 0) { s with hp := s.hp ++ [.arr sz n (fz n row)] } a w' ∧ ∀ len, len ≤ n → Rep (E.new (some g) sz cap 0) w' (.sl s.hp.length 0 len) (.slice (some ⟨g, 0, none⟩) len cap) := by
  have hN := h.heap.len
  have hob : ArrRep (E.new (some g) sz cap 0) w' s.hp.length sz n (fz n row) := by
    refine ArrRep.fz ⟨new_σ hN _ _ _ _, hpos, by rw [new_κ hN]; exact hnc, by rw [new_κ hN]; exact hcap, hl, ?_⟩
    rw [new_ρ hN, new_κ hN, new_ω hN]
    refine ⟨arr, ty, hgw, by simpa using hsize, fun i j c hi hj => ?_⟩
    simp only [Nat.zero_add]
    exact hr i j c hi hj
  refine ⟨h.newObj hs (fun b hb => by cases hb; exact ⟨hg, (Array.getElem?_eq_some_iff.1 hgw).1⟩) hob, fun len hlen => ?_⟩
  have := Rep.sl (E := E.new (some g) sz cap 0) (w := w') s.hp.length 0 len (some ⟨g, 0, none⟩) (by show _ < E.N + 1; omega) (by rw [new_κ hN]; omega)
    (fun _ => by rw [new_ρ hN, new_ω hN]; simp)
  rw [new_κ hN] at this
  exact this

theorem opMakeSlice_sound (hT : TTOk P T) (h : Models E0 H0 w0 E s a w) {t : TypeId} {x y : Operand} (ho : o.op = .makeSlice t x y)
    (hf : opMakeSlice T s o.dst t (s.ev x) (s.ev y) = some s') (hc : s'.cond) : s.cond ∧ Done P o E0 H0 w0 s' a w := by
  have hx := h.ev x
  have hy := h.ev y
  simp only [opMakeSlice, Option.bind_eq_some_iff] at hf
  obtain ⟨ts, hts, hf⟩ := hf
  obtain ⟨_, ⟨i, d, z, hi', hu, hsz, hby, hk, _⟩⟩ := hT t ts hts
  split at hf
  · rename_i e n m hkk hvx hvy
    rw [hkk] at hk; cases hk
    rw [hvx] at hx; rw [hvy] at hy
    simp only [Option.bind_eq_some_iff] at hf
    obtain ⟨te, hte, hf⟩ := hf
    have hTe := hT e te hte
    obtain ⟨_, ⟨ie, de, ze, hie, hue, hies, hieb, hke, hze, hzl, hzs, hzr⟩⟩ := hT e te hte
    have hzero := zero_cells (E := E) (w := w) hTe hie hze
    cases hle : Nat.ble 1 te.size with
    | false => rw [hle] at hf; cases hf
    | true =>
      rw [hle, cond_true] at hf
      have hpos : 0 < te.size := Nat.le_of_ble_eq_true hle
      obtain ⟨e1, e2, e3, e4, e5⟩ := setd_some hf
      have hcc : s.cond ∧ (0 ≤ n ∧ n ≤ m ∧ m * (te.bytes : Int) ≤ 140737488355328 ∧ m ≤ 9223372036854775807) := by rw [e2] at hc; exact hc
      obtain ⟨hc1, b1, b2, b3, b4⟩ := hcc
      refine ⟨hc1, ?_⟩
      obtain ⟨M, hM⟩ : ∃ M : Nat, m = M := Int.eq_ofNat_of_zero_le (by omega)
      obtain ⟨N, hN⟩ : ∃ N : Nat, n = N := Int.eq_ofNat_of_zero_le b1
      subst hM; subst hN
      -- the new row
      let arr : Array Value := if M * te.size = 0 then (Array.range (M * te.size)).map (fun i => (#[] : Array Value)[i % 0]!) else (Array.range (M * te.size)).map (fun i => ze.cells[i % ze.cells.size]!)
      have harr : arr.size = M * te.size := by simp only [arr]; split <;> simp
      have hrun : (execOp a.eval o).run P w = .ok (.value (.slice (some ⟨w.heap.size, 0, none⟩) N M)) (w.alloc (.cells arr e)) := by
        have hw1 : IntKind.i64.wrap (N : Int) = N := wrap_id (by omega) (by omega)
        have hw2 : IntKind.i64.wrap (M : Int) = M := wrap_id (by omega) b4
        have h3 : (te.bytes : Int) * (M : Int) ≤ 140737488355328 := by rw [Int.mul_comm]; exact b3
        have h4 : ¬ (281474976710656 < (te.bytes : Int) * (M : Int)) := by omega
        have h5 : ¬ ((M : Int) < 0) := by omega
        have h6 : ¬ ((N : Int) < 0) := by omega
        have h7 : ¬ ((M : Int) < (N : Int)) := by omega
        have hti : (typeInfo e).run P w = .ok ie w := by simp [typeInfo, hie]
        have hzv : (zeroValue e).run P w = .ok ze w := by simp [zeroValue, typeInfo, hie, hze]
        simp only [execOp, ho, Instr.makeSlice, Sem.run_bind, run_underlying hu, Result.andThen, hx.int', hy.int', asInt, asIntOf, Sem.run_pure, hti, hieb, hw1, hw2]
        rw [if_neg (by simp [h4, h5, h6, h7])]
        simp only [Sem.run_bind, run_askRoom, Result.andThen, run_sizeOf hTe, Int.toNat_natCast]
        by_cases h0 : M * te.size = 0
        · simp only [h0, if_true, Sem.run_bind, Result.andThen, Sem.run_pure, newRow, run_newObj, arr]; rfl
        · simp only [h0, if_false, Sem.run_bind, Result.andThen, hzv, Sem.run_pure, newRow, run_newObj, arr]; rfl
      obtain ⟨hm, hsl⟩ := h.newArr (Same.alloc w (.cells arr e)) w.heap.size (Nat.le_refl _) arr e (heap_alloc_new w _) te.size N M (constRow te.zero) hpos (by omega) (by omega) (by omega) (fun _ _ => hzs)
        (fun i j c hi hj => by
          have hjl : j < te.zero.length := get_lt hj
          obtain ⟨g1, u, g2, g3⟩ := hzero.2 j c hj
          obtain ⟨f1, f2⟩ := hzr j c hj
          have hq : i * te.size + j < M * te.size := by
            have : (i + 1) * te.size ≤ M * te.size := Nat.mul_le_mul_right _ (by omega)
            rw [Nat.add_mul, Nat.one_mul] at this
            omega
          refine ⟨u, ?_, ?_⟩
          · simp only [arr]
            rw [if_neg (by omega), zeroRange_get _ (by omega) _ _ hq, hzl, hzs, Nat.mul_comm, Nat.mul_add_mod, Nat.mod_eq_of_lt (by omega)]
            exact g2
          · have := (f2 E.F (w.alloc (.cells arr e))).1
            have hjz : j < ze.cells.size := by omega
            have hu' : ze.cells.getD j default = u := by
              rw [Array.getElem?_eq_some_iff] at g2
              obtain ⟨_, g2⟩ := g2
              simp [Array.getD, hjz, g2]
            rw [hu'] at this; exact this)
      exact ⟨_, _, E.new (some w.heap.size) te.size M 0, hrun, (hm.cond _).setd hf ((hsl N (Nat.le_refl _)))⟩
  · cases hf

end
/-- A slice of an owned array is a frozen slice when the array's block is frozen. -/
theorem sl_frozen {E : Env} {w : World} {id sz m b n : Nat} {row : Nat → List AV} {x : Value} (ho : ArrRep E w id sz m row) (hx : Rep E w (.sl id b n) x) (hc : b + n ≤ m)
    {F : Nat → Prop} (hF : ∀ b, E.F b → F b) (hb : ∀ b, E.ρ id = some b → F b) : RepF F w (.list n (dropRow b row)) x := by
  obtain ⟨g1, g2, g3, g4, g5, g6⟩ := ho
  cases hx with
  | fz _ _ hx => cases hx
  | sl _ _ _ av hi hle ha =>
    by_cases hn : n = 0
    · subst hn; exact .empty _ _ _
    · have hav := ha (by omega)
      cases hρ : E.ρ id with
      | none => rw [hρ] at g6; omega
      | some blk =>
        rw [hρ] at g6 hav
        simp only [Option.map_some] at hav
        subst hav
        obtain ⟨arr, ty, e1, e2, e3⟩ := g6
        refine .list n _ blk _ _ sz (fun i j => arr.getD ((E.ω id + (b + i)) * sz + j) default) (hb blk hρ) (by omega) (fun i hi' => g5 _ (by omega)) (fun i j c hi' hj => ?_) (fun i j c hi' hj => ?_) (fun i j c hi' hj => ?_)
        · obtain ⟨v, f1, f2⟩ := e3 (b + i) j c (by omega) hj
          have hlt : (E.ω id + (b + i)) * sz + j < arr.size := (Array.getElem?_eq_some_iff.1 f1).1
          simp only [World.cell?, e1, Option.isSome_none, Bool.false_eq_true, if_false]
          rw [g1, show (E.ω id + b) * sz + (i * sz + j) = (E.ω id + (b + i)) * sz + j by simp only [Nat.add_mul]; omega, Array.getElem?_eq_getElem hlt]
          simp [Array.getD, hlt]
        · obtain ⟨v, f1, f2⟩ := e3 (b + i) j c (by omega) hj
          exact f2.isFree
        · obtain ⟨v, f1, f2⟩ := e3 (b + i) j c (by omega) hj
          have hlt : (E.ω id + (b + i)) * sz + j < arr.size := (Array.getElem?_eq_some_iff.1 f1).1
          have hv : arr.getD ((E.ω id + (b + i)) * sz + j) default = v := by
            rw [Array.getElem?_eq_getElem hlt] at f1; cases f1; simp [Array.getD, hlt]
          rw [hv]; exact f2.mono hF (fun _ _ => rfl)

end Go.Av

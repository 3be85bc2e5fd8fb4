/- The Av framework: operations on the frame. No law is proved here. -/
import Derived.Test.YtgbgmijighbfbaaGv2
set_option linter.unusedSimpArgs false
set_option linter.unusedVariables false
set_option linter.unusedSectionVars false
namespace Go.Av

def TTOk (P : Program) (T : TT) : Prop := ∀ t ts, T t = some ts → TOk P t ts

def Env.new (E : Env) (r : Option Nat) (sg kp om : Nat) : Env :=
  { F := E.F, N := E.N + 1, ρ := fun i => if i = E.N then r else E.ρ i, σ := fun i => if i = E.N then sg else E.σ i,
    κ := fun i => if i = E.N then kp else E.κ i, ω := fun i => if i = E.N then om else E.ω i }

theorem Env.new_le (E : Env) (r : Option Nat) (sg kp om : Nat) : E.Le (E.new r sg kp om) :=
  ⟨fun _ h => h, Nat.le_succ _, fun i hi => if_neg (by omega), fun i hi => if_neg (by omega), fun i hi => if_neg (by omega), fun i hi => if_neg (by omega)⟩

section
variable {E0 : Env} {H0 : List AObj} {w0 : World} {E : Env} {s s' : St} {a : Act} {w : World} {P : Program} {T : TT} {o : Oper}

theorem ObjRep.mono {E' : Env} {w' : World} {id : Nat} {ob : AObj} (h : ObjRep E w id ob) (hi : id < E.N) (hE : E.Le E') (hF : ∀ b, E.F b → w'.heap[b]? = w.heap[b]?) (hb : ob ≠ .dead → ∀ b, E.ρ id = some b → w'.heap[b]? = w.heap[b]?) : ObjRep E' w' id ob := by
  cases ob with
  | dead => trivial
  | slot => exact ⟨by rw [hE.ρ id hi]; exact h.1, by rw [hE.κ id hi]; exact h.2.1, by rw [hE.ω id hi]; exact h.2.2⟩
  | var cs =>
    obtain ⟨h0, b, arr, ty, h1, h2, h3, h4⟩ := h
    refine ⟨by rw [hE.ω id hi]; exact h0, b, arr, ty, by rw [hE.ρ id hi]; exact h1, by rw [hb (by simp) b h1]; exact h2, h3, fun j c hj => ?_⟩
    obtain ⟨g1, u, g2, g3⟩ := h4 j c hj
    exact ⟨g1, u, g2, g3.mono hE hF⟩
  | arr sz n row =>
    obtain ⟨h1, h2, h3, h4, h5, h6⟩ := h
    refine ⟨by rw [hE.σ id hi]; exact h1, h2, by rw [hE.κ id hi]; exact h3, by rw [hE.κ id hi]; exact h4, h5, ?_⟩
    have hb' := hb (by simp)
    rw [hE.ρ id hi, hE.κ id hi, hE.ω id hi]
    cases hρ : E.ρ id with
    | none => rw [hρ] at h6; exact h6
    | some b =>
      rw [hρ] at h6
      obtain ⟨arr, ty, g1, g2, g3⟩ := h6
      refine ⟨arr, ty, by rw [hb' b hρ]; exact g1, g2, fun i j c hi hc => ?_⟩
      obtain ⟨v, hv, hr⟩ := g3 i j c hi hc
      exact ⟨v, hv, hr.mono hE.F hF⟩
  | map es =>
    obtain ⟨b, mes, clock, g0, g1, g2, g3⟩ := h
    refine ⟨b, mes, clock, by rw [hE.ρ id hi]; exact g0, by rw [hb (by simp) b g0]; exact g1, g2, fun i e he => ?_⟩
    obtain ⟨me, h1, h2, h3⟩ := g3 i e he
    exact ⟨me, h1, h2.mono hE.F hF, h3.mono hE.F hF⟩

theorem live_lt {H : List AObj} {id : Nat} (h : Live H id) : id < H.length := by
  obtain ⟨o, ho, _⟩ := h
  rcases Nat.lt_or_ge id H.length with g | g
  · exact g
  · rw [List.getElem?_eq_none g] at ho; cases ho

theorem get_lt {α : Type} {l : List α} {i : Nat} {x : α} (h : l[i]? = some x) : i < l.length := by
  rcases Nat.lt_or_ge i l.length with g | g
  · exact g
  · rw [List.getElem?_eq_none g] at h; cases h

theorem append_get {α : Type} {l : List α} {x y : α} {i : Nat} (h : (l ++ [x])[i]? = some y) : (i < l.length ∧ l[i]? = some y) ∨ (i = l.length ∧ y = x) := by
  rcases Nat.lt_or_ge i l.length with g | g
  · rw [List.getElem?_append_left g] at h; exact .inl ⟨g, h⟩
  · rw [List.getElem?_append_right g] at h
    have : i - l.length = 0 := by have := get_lt h; simp at this; omega
    rw [this] at h; simp at h; exact .inr ⟨by omega, h.symm⟩

theorem live_append {H : List AObj} {ob : AObj} {i : Nat} (h : Live (H ++ [ob]) i) : (i < H.length ∧ Live H i) ∨ i = H.length := by
  obtain ⟨o, ho, hn⟩ := h
  rcases append_get ho with ⟨g, ho⟩ | ⟨g, _⟩
  · exact .inl ⟨g, o, ho, hn⟩
  · exact .inr g

/-- A new object. -/
theorem Models.newObj (h : Models E0 H0 w0 E s a w) {w' : World} (hs : Same w w') {r : Option Nat} {sg kp om : Nat} {ob : AObj}
    (hr : ∀ b, r = some b → w.heap.size ≤ b ∧ b < w'.heap.size) (hob : ObjRep (E.new r sg kp om) w' s.hp.length ob) :
    Models E0 H0 w0 (E.new r sg kp om) { s with hp := s.hp ++ [ob] } a w' := by
  have hN := h.heap.len
  have hle := E.new_le r sg kp om
  have hF : ∀ b, E.F b → w'.heap[b]? = w.heap[b]? := fun b hb => hs.block b (h.heap.frz b hb)
  have hρn : (E.new r sg kp om).ρ s.hp.length = r := by show (if s.hp.length = E.N then r else _) = _; rw [if_pos hN.symm]
  constructor
  · exact h.size
  · intro t; exact (h.tmps t).mono hle hF
  · refine ⟨by simp [Env.new, hN], ?_, ?_, ?_, ?_, ?_⟩
    · intro id ob' hid
      rcases append_get hid with ⟨g, hid⟩ | ⟨g, e⟩
      · exact (h.heap.obj id ob' hid).mono (by omega) hle hF (fun hne b hb => hs.block b (h.heap.lt id b ⟨ob', hid, hne⟩ hb))
      · subst g; subst e; exact hob
    · intro id b hl hb
      rcases live_append hl with ⟨g, hl⟩ | g
      · rw [hle.ρ id (by omega)] at hb; exact Nat.lt_of_lt_of_le (h.heap.lt id b hl hb) hs.size
      · subst g; rw [hρn] at hb; exact (hr b hb).2
    · intro id b hl hb hF'
      rcases live_append hl with ⟨g, hl⟩ | g
      · rw [hle.ρ id (by omega)] at hb; exact h.heap.fr id b hl hb hF'
      · subst g; rw [hρn] at hb; have := (hr b hb).1; have := h.heap.frz b hF'; omega
    · intro i j b hi hj hbi hbj
      rcases live_append hi with ⟨gi, hi⟩ | gi <;> rcases live_append hj with ⟨gj, hj⟩ | gj
      · rw [hle.ρ i (by omega)] at hbi; rw [hle.ρ j (by omega)] at hbj; exact h.heap.inj i j b hi hj hbi hbj
      · subst gj; rw [hρn] at hbj; rw [hle.ρ i (by omega)] at hbi; have := (hr b hbj).1; have := h.heap.lt i b hi hbi; omega
      · subst gi; rw [hρn] at hbi; rw [hle.ρ j (by omega)] at hbj; have := (hr b hbi).1; have := h.heap.lt j b hj hbj; omega
      · omega
    · intro b hb; exact Nat.lt_of_lt_of_le (h.heap.frz b hb) hs.size
  · exact ⟨h.base.1, by rw [List.length_append]; have := h.base.2; omega⟩
  · intro id hi hl
    have hb := h.base
    rcases live_append hl with ⟨g, hl⟩ | g
    · obtain ⟨a1, a2, a3, a4, a5⟩ := h.old id hi hl
      exact ⟨a1, by rw [hle.ρ id (by omega)]; exact a2, by rw [hle.σ id (by omega)]; exact a3, by rw [hle.κ id (by omega)]; exact a4, by rw [hle.ω id (by omega)]; exact a5⟩
    · simp only at hi; omega
  · intro id b hi hl hb
    rcases live_append hl with ⟨g, hl⟩ | g
    · rw [hle.ρ id (by omega)] at hb; exact h.new id b hi hl hb
    · subst g; rw [hρn] at hb; have := (hr b hb).1; have := h.keeps.size; omega
  · exact h.F
  · exact h.Fnew
  · exact h.keeps.trans (O' := fun _ => False) hs.keeps (fun _ _ h => h.elim)


end

def Done (P : Program) (o : Oper) (E0 : Env) (H0 : List AObj) (w0 : World) (s' : St) (a : Act) (w : World) : Prop :=
  ∃ r w' E', (execOp a.eval o).run P w = .ok r w' ∧ match r with
    | .value v => Models E0 H0 w0 E' s' (a.put o.dst v) w'
    | .skip => Models E0 H0 w0 E' s' (a.put o.dst Go.undef) w'
    | _ => False

section
variable {E0 : Env} {H0 : List AObj} {w0 : World} {E : Env} {s s' : St} {a : Act} {w : World} {P : Program} {T : TT} {o : Oper}

theorem Done.value (h : Models E0 H0 w0 E s a w) {v : AV} {x : Value} (hs : s.setd o.dst v = some s') (hv : Rep E w v x)
    (hrun : (execOp a.eval o).run P w = .ok (.value x) w) : Done P o E0 H0 w0 s' a w :=
  ⟨_, w, E, hrun, h.setd hs hv⟩

theorem rep_const0 (x : Value) : Rep E w (constAV0 x) x := by
  unfold constAV0
  split
  all_goals first
    | exact .fz _ _ (.bool _) | exact .fz _ _ (.int _ _) | exact .fz _ _ (.str _) | exact .fz _ _ .nilptr | exact .fz _ _ .nilmap
    | exact .fz _ _ .nilsl | exact .fz _ _ .nilif | exact .fz _ _ .nilfn | exact .undef _

theorem getD_eq_default (l : List Value) (i : Nat) (h : i < l.length) (d d' : Value) : l.getD i d = l.getD i d' := by
  simp [List.getD, List.getElem?_eq_getElem h]

theorem rep_const (x : Value) : Rep E w (constAV x) x := by
  unfold constAV
  split
  · rename_i cs
    have := Rep.agg (E := E) (w := w) (cs.toList.map constAV0) cs.toList (by simp) (fun i c hc => by
      obtain ⟨v, hv, rfl⟩ := getElem?_map_some hc
      rw [List.getD, hv]
      exact rep_const0 v)
    simpa using this
  · exact rep_const0 _

theorem Models.ev (h : Models E0 H0 w0 E s a w) (x : Operand) : Rep E w (s.ev x) (a.eval x) := by
  cases x with
  | tmp t => exact h.tmps t
  | const v => exact rep_const v
  | global g => exact .undef _
  | func f => exact .clos f [] [] [] [] rfl rfl (by simp) (by simp)

/-- A box laid. -/
theorem Models.newBox (h : Models E0 H0 w0 E s a w) {d : Option Nat} {cs : List AV} (hs : s.newBox d cs = some s') (arr : Array Value) (ty : TypeId)
    (hn : arr.size = cs.length) (hr : ∀ (j : Nat) c, cs[j]? = some c → isCell c = true ∧ ∃ v, arr[j]? = some v ∧ Rep E w c v) :
    ∃ E', Models E0 H0 w0 E' s' (a.put d (.pointer (some ⟨w.heap.size, 0, none⟩))) (w.alloc (.cells arr ty)) := by
  cases d with
  | none => simp [St.newBox] at hs
  | some d =>
    have hs2 : ({ s with hp := s.hp ++ [AObj.var cs] } : St).setd (some d) (.hptr s.hp.length 0 0) = some s' := hs
    have hN := h.heap.len
    have hle := E.new_le (some w.heap.size) cs.length 1 0
    have hF : ∀ b, E.F b → (w.alloc (.cells arr ty)).heap[b]? = w.heap[b]? := fun b hb => (Same.alloc w _).block b (h.heap.frz b hb)
    have hm := h.newObj (Same.alloc w (.cells arr ty)) (r := some w.heap.size) (sg := cs.length) (kp := 1) (om := 0) (ob := .var cs) (fun b hb => by cases hb; exact ⟨Nat.le_refl _, by simp⟩)
      ⟨if_pos hN.symm, w.heap.size, arr, ty, if_pos hN.symm, heap_alloc_new w _, hn, fun j c hj => by
        obtain ⟨g1, v, g2, g3⟩ := hr j c hj
        exact ⟨g1, v, g2, g3.mono hle hF⟩⟩
    refine ⟨_, hm.setd hs2 ?_⟩
    have := Rep.hptr (E := E.new (some w.heap.size) cs.length 1 0) (w := w.alloc (.cells arr ty)) s.hp.length 0 0 w.heap.size (by show _ < E.N + 1; omega) (if_pos hN.symm)
    have hω : (E.new (some w.heap.size) cs.length 1 0).ω s.hp.length = 0 := if_pos hN.symm
    rw [hω] at this
    simpa using this

/-- What stands in memory behind an address. -/
theorem Models.mem (h : Models E0 H0 w0 E s a w) {v : AV} {x : Value} (hx : Rep E w v x) {m : List AV × Prop} (hm : s.mem v = some m) (hc : m.2) :
    ∃ b o, x = .pointer (some ⟨b, o, none⟩) ∧ ∀ (j : Nat) c, m.1[j]? = some c → isCell c = true ∧ ∃ u, w.cell? ⟨b, o + j, none⟩ = some u ∧ Rep E w c u := by
  cases v with
  | fptr cs =>
    simp only [St.mem, Option.some.injEq] at hm; subst hm
    cases hx with
    | fz _ _ hx =>
      cases hx with
      | fptr _ b o vs hF hcell hf hr =>
        refine ⟨b, o, rfl, fun j c hj => ⟨?_, vs j, hcell j c hj, .fz _ _ (hr j c hj)⟩⟩
        have := hf j c hj
        cases c <;> simp_all [Go.Av.isFree, isCell]
  | hptr id idx off =>
    simp only [St.mem] at hm
    split at hm
    · rename_i sz n row hid
      simp only [Option.some.injEq] at hm; subst hm
      obtain ⟨h1, h2, h3, h4, h5, h6⟩ := h.heap.obj id _ hid
      cases hx with
      | fz _ _ hx => cases hx
      | hptr _ _ _ b _ hb =>
        rw [hb] at h6
        obtain ⟨arr, ty, g1, g2, g3⟩ := h6
        refine ⟨b, _, rfl, fun j c hj => ?_⟩
        simp only [List.getElem?_drop] at hj
        obtain ⟨u, hu, hr⟩ := g3 idx (off + j) c hc hj
        refine ⟨?_, u, ?_, .fz _ _ hr⟩
        · have := hr.isFree
          cases c <;> simp_all [Go.Av.isFree, isCell]
        · rw [h1]
          simp only [World.cell?, g1]
          rw [← hu]; simp [Nat.add_assoc]
    · rename_i cs hid
      cases hb0 : Nat.beq idx 0 with
      | false => rw [hb0] at hm; cases hm
      | true =>
        rw [hb0, cond_true, Option.some.injEq] at hm
        subst hm
        have hi0 := Nat.eq_of_beq_eq_true hb0
        subst hi0
        obtain ⟨h0, b, arr, ty, h1, h2, h3, h4⟩ := h.heap.obj id _ hid
        cases hx with
        | fz _ _ hx => cases hx
        | hptr _ _ _ b' _ hb' =>
          rw [h1] at hb'; cases hb'
          refine ⟨b, _, rfl, fun j c hj => ?_⟩
          simp only [List.getElem?_drop] at hj
          obtain ⟨g1, u, g2, g3⟩ := h4 _ c hj
          exact ⟨g1, u, by simp [World.cell?, h2, h0, g2], g3⟩
    · simp at hm
  | _ => simp [St.mem] at hm

theorem listOf {n : Nat} {R : Nat → Value → Prop} (h : ∀ j, j < n → ∃ v, R j v) : ∃ vs : List Value, vs.length = n ∧ ∀ (j : Nat) v, vs[j]? = some v → R j v := by
  induction n with
  | zero => exact ⟨[], rfl, by simp⟩
  | succ n ih =>
    obtain ⟨vs, h1, h2⟩ := ih (fun j hj => h j (by omega))
    obtain ⟨v, hv⟩ := h n (by omega)
    refine ⟨vs ++ [v], by simp [h1], fun j u hu => ?_⟩
    by_cases hj : j < n
    · rw [List.getElem?_append_left (by omega)] at hu; exact h2 j u hu
    · rw [List.getElem?_append_right (by omega)] at hu
      have : j = n := by
        have : j - vs.length < 1 := by
          rcases Nat.lt_or_ge (j - vs.length) 1 with h | h
          · exact h
          · rw [List.getElem?_eq_none (by simpa using h)] at hu; simp at hu
        omega
      subst this
      simp [h1] at hu; subst hu; exact hv

theorem isAgg_run {t : TypeId} {ts : TS} {d : TypeDesc} (hu : P.underlying t = some d) (hk : KOk d ts.kind) : (isAgg t).run P w = .ok ts.isAgg w := by
  simp only [isAgg, Sem.run_bind, run_underlying hu, Result.andThen]
  unfold TS.isAgg
  cases hkk : ts.kind with
  | struct fs => rw [hkk] at hk; obtain ⟨f, rfl, _⟩ := hk; rfl
  | array n e => rw [hkk] at hk; cases hk; rfl
  | plain =>
    rw [hkk] at hk
    cases d <;> first | rfl | (exact (hk trivial).elim)
  | _ => rw [hkk] at hk; cases hk; rfl

theorem isAgg_struct {ts : TS} : ts.isAgg = true ∨ ts.isAgg = false := by cases ts.isAgg <;> simp

theorem addr_add (b o n : Nat) : (⟨b, o, none⟩ : Addr).add n = ⟨b, o + n, none⟩ := by unfold Addr.add; split <;> simp_all

theorem opLoad_sound (hT : TTOk P T) (h : Models E0 H0 w0 E s a w) {t : TypeId} {x : Operand} (ho : o.op = .load t x)
    (hf : opLoad T s o.dst t (s.ev x) = some s') (hc : s'.cond) : s.cond ∧ Done P o E0 H0 w0 s' a w := by
  simp only [opLoad, Option.bind_eq_some_iff] at hf
  obtain ⟨ts, hts, m, hm, hf⟩ := hf
  cases hle : (Nat.ble 1 ts.size && Nat.ble ts.size (m.1.take ts.size).length) with
  | false => rw [hle] at hf; cases hf
  | true =>
    rw [hle, cond_true] at hf
    rw [Bool.and_eq_true] at hle
    have hz : 0 < ts.size := Nat.le_of_ble_eq_true hle.1
    have hlen : (m.1.take ts.size).length = ts.size := by
      have := Nat.le_of_ble_eq_true hle.2
      have h2 := List.length_take_le ts.size m.1
      omega
    have hcc : s.cond ∧ m.2 := by rw [(setd_some hf).2.1] at hc; exact hc
    obtain ⟨b, off, hx, hcell⟩ := h.mem (h.ev x) hm hcc.2
    obtain ⟨_, ⟨i, d, z, hi, hu, hsz, _, hk, _⟩⟩ := hT t ts hts
    obtain ⟨vs, hvl, hv⟩ := listOf (n := ts.size) (R := fun j v => w.cell? ⟨b, off + j, none⟩ = some v ∧ ∀ c, m.1[j]? = some c → Rep E w c v) (fun j hj => by
      obtain ⟨c, hcj⟩ : ∃ c, m.1[j]? = some c := by
        have : j < m.1.length := by rw [List.length_take] at hlen; omega
        exact ⟨m.1[j], List.getElem?_eq_getElem this⟩
      obtain ⟨_, u, hu1, hu2⟩ := hcell j c hcj
      exact ⟨u, hu1, fun c' hc' => by rw [hcj] at hc'; cases hc'; exact hu2⟩)
    refine ⟨hcc.1, ?_⟩
    have hload : (loadCells ⟨b, off, none⟩ ts.size).run P w = .ok vs.toArray w := by
      have := run_loadCells_list (P := P) w ⟨b, off, none⟩ vs (fun j v hj => by rw [addr_add]; exact (hv j v hj).1)
      rw [hvl] at this; exact this
    cases hagg : ts.isAgg with
    | true =>
      refine Done.value (x := .agg vs.toArray) (h.cond _) hf ?_ ?_
      · rw [hagg]
        refine Rep.agg _ vs (by rw [hlen, hvl]) fun j c hj => ?_
        have hjl : j < ts.size := by
          rcases Nat.lt_or_ge j ts.size with g | g
          · exact g
          · rw [List.getElem?_eq_none (by omega)] at hj; simp at hj
        have hj' : m.1[j]? = some c := by rw [List.getElem?_take] at hj; simpa [hjl] using hj
        rw [List.getD, List.getElem?_eq_getElem (by omega)]
        exact (hv j _ (List.getElem?_eq_getElem (by omega))).2 c hj'
      · simp [execOp, ho, hx, Instr.loadAt, Instr.sureAddr, loadVar, isAgg_run hu hk, hagg, sizeOf, typeInfo, hi, hsz, hload]
    | false =>
      refine Done.value (x := vs.getD 0 default) (h.cond _) hf ?_ ?_
      · rw [hagg]
        show Rep E w ((m.1.take ts.size).headD .undef) _
        cases hm1 : m.1 with
        | nil => rw [hm1] at hlen; simp at hlen; omega
        | cons c rest =>
          cases hts2 : ts.size with
          | zero => omega
          | succ k =>
            show Rep E w c _
            rw [List.getD, List.getElem?_eq_getElem (by omega)]
            exact (hv 0 _ (List.getElem?_eq_getElem (by omega))).2 c (by rw [hm1]; rfl)
      · have h0 := (hv 0 (vs.getD 0 default) (by rw [List.getD, List.getElem?_eq_getElem (by omega)]; rfl)).1
        rw [Nat.add_zero] at h0
        have hl : (load ⟨b, off, none⟩).run P w = .ok (vs.getD 0 default) w := by rw [run_load, h0]
        simp only [execOp, ho, hx, Instr.loadAt, Instr.sureAddr, loadVar, Sem.run_bind, isAgg_run hu hk, hagg, Result.andThen, Sem.run_pure, Bool.false_eq_true, if_false, hl]

end
end Go.Av

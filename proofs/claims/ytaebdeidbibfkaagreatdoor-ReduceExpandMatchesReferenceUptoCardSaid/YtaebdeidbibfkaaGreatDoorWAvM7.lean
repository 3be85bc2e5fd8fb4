/- The Av framework: steps in a region whose order is drawn. No law is proved here. -/
import Derived.Test.YtaebdeidbibfkaaGreatDoorWAvM6
import Derived.ChangeArms
import Derived.WideKeyArgs
import Derived.RowKit3
import Derived.JoinedCond
import Derived.OpenShut
import Derived.Carry
set_option linter.unusedSimpArgs false
set_option linter.unusedVariables false
set_option linter.unusedSectionVars false
namespace Go.Av
variable [Drawn]

def refsD : AV → List Nat
  | .agg cs => cs.flatMap refs
  | .clos _ a c => (a ++ c).flatMap refs
  | v => refs v

/-- Whether an operation looks into the heap. -/
def readsHp (o : Oper) : Bool := match o.op with
  | .load _ _ | .indexAddr _ _ _ | .slice _ _ _ _ _ | .lookup _ _ _ _ | .call _ => true
  | _ => false

def Within (R : List Nat) (s : St) (o : Oper) : Prop := readsHp o = true → ∀ x ∈ o.op.operands, ∀ id ∈ refsD (s.ev x), id ∈ R

def withinB (R : List Nat) (s : St) (o : Oper) : Bool := !readsHp o || o.op.operands.toList.all fun x => (refsD (s.ev x)).all fun id => R.any (Nat.beq id)

theorem withinB_ok {R : List Nat} {s : St} {o : Oper} (h : withinB R s o = true) : Within R s o := by
  intro hrd x hx id hid
  rw [withinB, hrd, Bool.not_true, Bool.false_or] at h
  have h1 := List.all_eq_true.1 h x (by simpa using hx)
  have h2 := List.all_eq_true.1 h1 id hid
  obtain ⟨k, hk, e⟩ := List.any_eq_true.1 h2
  have := Nat.eq_of_beq_eq_true e
  subst this; exact hk

section
variable {P : Program} {X : Ctx} {T : TT} {own : Nat → Bool} {ops : Array Oper} {B R0 : List Nat} {R : Nat → List Nat} {K : St → Prop} {s s' : St} {o : Oper}

theorem ev_agree (hgl : s'.gl = s.gl) (hl : ∀ t ∈ o.looksAt ops, look s'.ch t = look s.ch t) {x : Operand} (hx : x ∈ o.op.operands) : s'.ev x = s.ev x := by
  cases x with
  | tmp t => exact hl t (List.mem_append_left _ (List.mem_filterMap.2 ⟨.tmp t, by simpa using hx, rfl⟩))
  | global g => show look s'.gl g = look s.gl g; rw [hgl]
  | _ => rfl

theorem guard_agree (hl : ∀ t ∈ o.looksAt ops, look s'.ch t = look s.ch t) : guardA ops s' o = guardA ops s o := by
  unfold guardA
  cases hg : o.guard with
  | none => rfl
  | some gw =>
    obtain ⟨g, want⟩ := gw
    simp only
    cases hd : (ops[g]?).bind (·.dst) with
    | none => rfl
    | some d =>
      simp only
      rw [hl d (List.mem_append_right _ (by rw [hg]; simp [hd]))]

theorem same_of (hR : ∀ id ∈ R0, s'.hp[id]? = s.hp[id]?) (hrd : readsHp o = true) (hw : Within R0 s o) {x : Operand} (hx : x ∈ o.op.operands) : SameAt s s' (s.ev x) := fun id hid =>
  hR id (hw hrd x hx id (by
    cases hv : s.ev x <;> rw [hv] at hid <;> first | exact hid | (simp [refs] at hid)))

def noSl (s : St) (o : Oper) : Prop := match o.op with
  | .call c => match c.callee, c.args.toList with
    | .builtin .append, [x, _] => ∀ id b n, s.ev x ≠ .sl id b n
    | _, _ => True
  | _ => True

theorem pairs_agree {ps : Array (Nat × Operand)} (h : ∀ x ∈ ps.toList.map (·.2), s'.ev x = s.ev x) : (ps.toList.map fun p => (p.1, s'.ev p.2)) = ps.toList.map fun p => (p.1, s.ev p.2) :=
  List.map_congr_left fun p hp => by rw [h p.2 (List.mem_map.2 ⟨p, hp, rfl⟩)]

theorem opf_cong (hk : valKind own o = true) (hp : isPure o = true) (hsl : noSl s o) (hw : Within R0 s o) (ha : Agree ops R0 o s s') {v : AV} (h : Yv s o.dst v (opf T own o s)) : Yv s' o.dst v (opf T own o s') := by
  obtain ⟨⟨hn, hgl⟩, hc, hl, hR⟩ := ha
  have ev : ∀ x ∈ o.op.operands, s'.ev x = s.ev x := fun x hx => ev_agree hgl hl hx
  have sm : readsHp o = true → ∀ x ∈ o.op.operands, SameAt s s' (s.ev x) := fun hrd x hx => same_of hR hrd hw hx
  clear hl hR hw
  obtain ⟨dst, op, type, pos, after, guard⟩ := o
  simp only [valKind, isPure, noSl] at hk hp hsl
  cases op with
  | move x => simp only [opf] at h ⊢; rw [ev x (by simp [Op.operands])]; exact h.setd hn hc
  | assign x => simp only [opf] at h ⊢; rw [ev x (by simp [Op.operands])]; exact h.setd hn hc
  | pick c a b =>
    simp only [opf] at h ⊢
    rw [ev c (by simp [Op.operands]), ev a (by simp [Op.operands]), ev b (by simp [Op.operands])]
    split at h
    · exact h.setd hn hc
    · exact h.no.elim
  | load t x => simp only [opf] at h ⊢; rw [ev x (by simp [Op.operands])]; exact cong_load h hn hc (sm rfl x (by simp [Op.operands]))
  | fieldAddr t x f => simp only [opf] at h ⊢; rw [ev x (by simp [Op.operands])]; exact cong_fieldAddr h hn hc
  | field t x f => simp only [opf] at h ⊢; rw [ev x (by simp [Op.operands])]; exact cong_field h hn hc
  | indexAddr t x i => simp only [opf] at h ⊢; rw [ev x (by simp [Op.operands]), ev i (by simp [Op.operands])]; exact cong_indexAddr h hn hc (sm rfl x (by simp [Op.operands]))
  | index t x i => simp only [opf] at h ⊢; rw [ev x (by simp [Op.operands]), ev i (by simp [Op.operands])]; exact cong_index h hn hc
  | build t ps => simp only [opf] at h ⊢; rw [pairs_agree (fun x hx => ev x (by simpa [Op.operands] using hx))]; exact cong_build h hn hc
  | makeSlice t l c => simp only [opf] at h ⊢; rw [ev l (by simp [Op.operands]), ev c (by simp [Op.operands])]; exact cong_makeSlice (by simpa using hk) h hn hc
  | buildSlice t n ps =>
    simp only [opf] at h ⊢
    rw [pairs_agree (fun x hx => ev x (by simpa [Op.operands] using hx))]
    exact cong_buildSlice (by simpa using hk) h hn hc
  | slice t x lo hi mx =>
    cases mx with
    | some m => simp at hk
    | none =>
      simp only [opf] at h ⊢
      have e1 : lo.map s'.ev = lo.map s.ev := by
        cases lo with
        | none => rfl
        | some l => simp only [Option.map_some]; rw [ev l (by simp [Op.operands])]
      have e2 : hi.map s'.ev = hi.map s.ev := by
        cases hi with
        | none => rfl
        | some l => simp only [Option.map_some]; rw [ev l (by simp [Op.operands])]
      rw [ev x (by simp [Op.operands]), e1, e2]
      exact cong_slice h hn hc (sm rfl x (by simp [Op.operands]))
  | binOp op t x y u => simp only [opf] at h ⊢; rw [ev x (by simp [Op.operands]), ev y (by simp [Op.operands])]; exact cong_bin h hn hc
  | unOp op t x => simp only [opf] at h ⊢; rw [ev x (by simp [Op.operands])]; exact cong_un h hn hc
  | convert a b x => simp only [opf] at h ⊢; rw [ev x (by simp [Op.operands])]; exact cong_convert h hn hc
  | nilCheck x =>
    simp only [opf] at h ⊢; rw [ev x (by simp [Op.operands])]
    unfold opNilCheck at h ⊢
    split at h
    · exact h.setd hn hc
    · exact h.setd hn hc
    · exact h.no.elim
  | makeFunc f a c =>
    simp only [opf] at h ⊢
    have e1 : a.toList.map s'.ev = a.toList.map s.ev := List.map_congr_left fun x hx => ev x (by simp [Op.operands]; exact .inl (by simpa using hx))
    have e2 : c.toList.map s'.ev = c.toList.map s.ev := List.map_congr_left fun x hx => ev x (by simp [Op.operands]; exact .inr (by simpa using hx))
    rw [e1, e2]
    unfold opMakeFunc at h ⊢
    split at h
    · exact h.setd hn hc
    · exact h.no.elim
  | extract x i => simp only [opf] at h ⊢; rw [ev x (by simp [Op.operands])]; exact cong_extract h hn hc
  | makeInterface t x => simp only [opf] at h ⊢; rw [ev x (by simp [Op.operands])]; exact cong_iface h hn hc
  | lookup t x k ok => simp only [opf] at h ⊢; rw [ev x (by simp [Op.operands]), ev k (by simp [Op.operands])]; exact cong_lookup h hn hc (sm rfl x (by simp [Op.operands]))
  | call c =>
    simp only [opf] at h ⊢
    simp only at hk hp hsl
    split at h
    · rename_i x t h1 h2 h3
      have hx : x ∈ (Op.call c).operands := by
        have : c.args = #[x] := by rw [← Array.toArray_toList (xs := c.args), h2]
        simp [Op.operands, Call.operands, this]
      try simp only [h1, h2, h3]
      rw [ev x hx]; exact cong_len h hn hc (sm rfl x hx)
    · rename_i x y t t' h1 h2 h3
      have ha : c.args = #[x, y] := by rw [← Array.toArray_toList (xs := c.args), h2]
      have hx : x ∈ (Op.call c).operands := by simp [Op.operands, Call.operands, ha]
      have hy : y ∈ (Op.call c).operands := by simp [Op.operands, Call.operands, ha]
      simp only [h1, h2, h3] at hk hsl ⊢
      rw [ev x hx, ev y hy]; exact cong_append (by simpa using hk) hsl h hn hc (sm rfl y hy)
    · rename_i x y t t' h1 h2 h3
      simp only [h1] at hk; cases hk
    · rename_i x t h1 h2 h3
      simp only [h1] at hk; cases hk
    · rename_i x y h1 h2
      have ha : c.args = #[x, y] := by rw [← Array.toArray_toList (xs := c.args), h2]
      have hx : x ∈ (Op.call c).operands := by simp [Op.operands, Call.operands, ha]
      have hy : y ∈ (Op.call c).operands := by simp [Op.operands, Call.operands, ha]
      simp only [h1, h2] at hk ⊢
      rw [ev x hx, ev y hy]
      unfold opMax at h ⊢
      split at h
      · exact h.setd hn hc
      · exact h.no.elim
    · rename_i x y h1 h2
      have ha : c.args = #[x, y] := by rw [← Array.toArray_toList (xs := c.args), h2]
      have hx : x ∈ (Op.call c).operands := by simp [Op.operands, Call.operands, ha]
      have hy : y ∈ (Op.call c).operands := by simp [Op.operands, Call.operands, ha]
      simp only [h1, h2] at hk ⊢
      rw [ev x hx, ev y hy]
      unfold opMin at h ⊢
      split at h
      · exact h.setd hn hc
      · exact h.no.elim
    · exact h.no.elim
  | _ => simp at hk

theorem Yv.yh {d : Option Nat} {v : AV} {o : Option St} (h : Yv s d v o) : Yh s d v s.hp o := by
  obtain ⟨r, h1, h2, h3⟩ := h
  have hh : r.hp = s.hp := by
    have := (setd_some h3).1
    exact this
  refine ⟨r, h1, h2, hh, ?_⟩
  rw [h3]; cases r; simp only at hh; subst hh; rfl

/-- A step that yields a value. -/
theorem regI_val {i : Nat} {is : List Nat} {r : St} (v : AV) (ho : ops[i]? = some o) (hk : valKind own o = true) (hp : isPure o = true) (hg : guardA ops s o = some true) (hf : opf T own o s = some r) (hc : r.cond)
    (hv : s.setd o.dst v = some { r with cond := s.cond }) (hsl : noSl s o) (hw : withinB (R i) s o = true) (hk2 : regI P T own ops B R K is { r with cond := s.cond }) : regI P T own ops B R K (i :: is) s := by
  refine ⟨o, ho, .inl ⟨hk, v, _, fun s' ha => ⟨true, by rw [guard_agree ha.2.2.1]; exact hg, ?_⟩, hv, hk2⟩⟩
  rw [if_pos rfl]
  have hy := (opf_cong hk hp hsl (withinB_ok hw) ha (v := v) ⟨r, hf, hc, hv⟩).yh.yw
  unfold Yo
  unfold isPure at hp
  split
  · rename_i c hoc
    rw [hoc] at hp
    simp only at hp
    split
    · rename_i f hf; rw [hf] at hp; cases hp
    · exact hy
  · exact hy

/-- A step that yields a value of which less is kept. -/
theorem regI_valw {i : Nat} {is : List Nat} {r s1 : St} {v0 : AV} (v : AV) (hwk : Wk v0 v) (ho : ops[i]? = some o) (hk : valKind own o = true) (hp : isPure o = true) (hg : guardA ops s o = some true) (hf : opf T own o s = some r) (hc : r.cond)
    (hv : s.setd o.dst v0 = some { r with cond := s.cond }) (hs1 : s.setd o.dst v = some s1) (hsl : noSl s o) (hw : withinB (R i) s o = true) (hk2 : regI P T own ops B R K is s1) : regI P T own ops B R K (i :: is) s := by
  refine ⟨o, ho, .inl ⟨hk, v, _, fun s' ha => ⟨true, by rw [guard_agree ha.2.2.1]; exact hg, ?_⟩, hs1, hk2⟩⟩
  rw [if_pos rfl]
  have hy : Yw s' o.dst v s'.hp (opf T own o s') := ⟨v0, hwk, (opf_cong hk hp hsl (withinB_ok hw) ha (v := v0) ⟨r, hf, hc, hv⟩).yh⟩
  unfold Yo
  unfold isPure at hp
  split
  · rename_i c hoc
    rw [hoc] at hp
    simp only at hp
    split
    · rename_i f hf; rw [hf] at hp; cases hp
    · exact hy
  · exact hy

/-- Nil slices within a struct, as empty ones. -/
theorem wk_agg {cs cs' : List AV} (h : All2 (fun a b => a = b ∨ (a = .nilsl ∧ ∃ row, b = .list 0 row) ∨ (a = .zsl ∧ ∃ row, b = .list 0 row)) cs cs') : Wk (.agg cs) (.agg cs') := by
  intro E w x hx
  cases hx with
  | fz _ _ hx => cases hx
  | agg _ vs hn hc =>
    refine .agg _ _ (by rw [hn, h.len]) fun i c hi => ?_
    have hil : i < cs.length := by have := (List.getElem?_eq_some_iff.1 hi).1; rw [h.len] at this; exact this
    have h0 := List.getElem?_eq_getElem hil
    have := hc i _ h0
    rcases h.get i _ _ h0 hi with e | ⟨e, row, rfl⟩ | ⟨e, row, rfl⟩
    · rw [e] at this; exact this
    · rw [e] at this
      generalize vs.getD i default = y at this
      cases this with
      | fz _ _ q => cases q; exact .fz _ _ (.empty _ _ _)
    · rw [e] at this
      generalize vs.getD i default = y at this
      cases this with
      | fz _ _ q => cases q; exact .fz _ _ (.empty _ _ _)

theorem regI_skip {i : Nat} {is : List Nat} {s1 : St} (ho : ops[i]? = some o) (hk : valKind own o = true) (hg : guardA ops s o = some false) (hv : s.setd o.dst (.tup []) = some s1)
    (hk2 : regI P T own ops B R K is s1) : regI P T own ops B R K (i :: is) s :=
  ⟨o, ho,   .inl ⟨hk, .tup [], s1, fun s' ha => ⟨false, by rw [guard_agree ha.2.2.1]; exact hg, by rw [if_neg (by simp)]; exact ⟨rfl, rfl⟩⟩, hv, hk2⟩⟩

/-- A run of steps that yield values. -/
def runI (T : TT) (own : Nat → Bool) (ops : Array Oper) (R : Nat → List Nat) : List Nat → St → Option (St × Prop)
  | [], s => some (s, True)
  | i :: is, s => match ops[i]? with
    | none => none
    | some o => bif valKind own o && isPure o then match guardA ops s o with
        | some true => bif withinB (R i) s o then (opf T own o s).bind fun s1 =>
            (runI T own ops R is { s1 with cond := s.cond }).map fun r => (r.1, s1.cond ∧ noSl s o ∧ (s.setd o.dst (match o.dst with | some d => look s1.ch d | none => .undef) = some { s1 with cond := s.cond }) ∧ r.2) else none
        | some false => (s.setd o.dst (.tup [])).bind (runI T own ops R is)
        | none => none
      else none

theorem regI_run : ∀ {is is' : List Nat} {s : St} {r : St × Prop}, runI T own ops R is s = some r → r.2 → regI P T own ops B R K is' r.1 → regI P T own ops B R K (is ++ is') s
  | [], is', s, r, h, hc, hk => by simp only [runI, Option.some.injEq] at h; subst h; exact hk
  | i :: is, is', s, r, h, hc, hk => by
    simp only [runI] at h
    split at h
    · cases h
    · rename_i o ho
      cases hb : (valKind own o && isPure o) with
      | false => rw [hb] at h; cases h
      | true =>
        rw [hb, cond_true] at h
        rw [Bool.and_eq_true] at hb
        split at h
        · rename_i hg
          cases hw : withinB (R i) s o with
          | false => rw [hw] at h; cases h
          | true =>
            rw [hw, cond_true] at h
            simp only [Option.bind_eq_some_iff, Option.map_eq_some_iff] at h
            obtain ⟨s1, hf, r1, hr, rfl⟩ := h
            obtain ⟨c1, c2, c3, c4⟩ := hc
            exact regI_val _ ho hb.1 hb.2 hg hf c1 c3 c2 hw (regI_run hr c4 hk)
        · rename_i hg
          simp only [Option.bind_eq_some_iff] at h
          obtain ⟨s1, hf, hr⟩ := h
          exact regI_skip ho hb.1 hg hf (regI_run hr hc hk)
        · cases h

/-- A run of steps up to the next that is none. -/
theorem regI_upto (n : Nat) {is : List Nat} {r : St × Prop} (h : runI T own ops R (is.take n) s = some r) (hc : r.2) (hk : regI P T own ops B R K (is.drop n) r.1) : regI P T own ops B R K is s := by
  have := regI_run (P := P) h hc hk
  rwa [List.take_append_drop] at this

theorem toArgs_same {hp hp' : List AObj} : ∀ (vs : List AV), (∀ v ∈ vs, ∀ id ∈ refsD v, hp'[id]? = hp[id]?) → toArgs hp' vs = toArgs hp vs := by
  have h0 : ∀ v, (∀ id ∈ refs v, hp'[id]? = hp[id]?) → toArg0 hp' v = toArg0 hp v := by
    intro v hv
    cases v <;> first | rfl | (simp only [toArg0]; rw [hv _ (by simp [refs])])
  have h1 : ∀ vs : List AV, (∀ v ∈ vs, ∀ id ∈ refs v, hp'[id]? = hp[id]?) → toArgs0 hp' vs = toArgs0 hp vs := by
    intro vs
    induction vs with
    | nil => intro _; rfl
    | cons v vs ih =>
      intro hv
      simp only [toArgs0]
      rw [h0 v (hv v (by simp)), ih (fun u hu => hv u (by simp [hu]))]
  have h2 : ∀ v, (∀ id ∈ refsD v, hp'[id]? = hp[id]?) → toArg hp' v = toArg hp v := by
    intro v hv
    cases v with
    | agg cs =>
      simp only [toArg]
      rw [h1 cs (fun u hu id hid => hv id (by simp only [refsD, List.mem_flatMap]; exact ⟨u, hu, hid⟩))]
    | clos f a c => rfl
    | _ => exact h0 _ (by simpa only [refsD] using hv)
  intro vs
  induction vs with
  | nil => intro _; rfl
  | cons v vs ih =>
    intro hv
    simp only [toArgs]
    rw [h2 v (hv v (by simp)), ih (fun u hu => hv u (by simp [hu]))]

/-- A call of a plain function that hands out no object. -/
theorem regI_call {i : Nat} {is : List Nat} {s1 : St} {c : Call} {g : FuncId} {p1 : List AV} {pc : Prop} {pl : Bool} {r : AV} (hcon : Con P s.gl g p1 r []) (ho : ops[i]? = some o) (hoc : o.op = .call c) (hcal : c.callee = .value (.func g))
    (hg : guardA ops s o = some true) (hp : toArgs s.hp (c.args.toList.map s.ev) = some (p1, pc, pl)) (hpc : pc) (hsh : ∀ n, shift n r = r) (hl : pl = true → isScalar r = true) (hw : withinB (R i) s o = true)
    (hs : s.setd o.dst r = some s1) (hk : regI P T own ops B R K is s1) (hown : own (o.dst.getD 0) = false := by rfl) : regI P T own ops B R K (i :: is) s := by
  have hv : valKind own o = true := by simp only [valKind, hoc, hcal, hown]; rfl
  refine ⟨o, ho, .inl ⟨hv, r, s1, fun s' ha => ⟨true, by rw [guard_agree ha.2.2.1]; exact hg, ?_⟩, hs, hk⟩⟩
  rw [if_pos rfl]
  have hop : ∀ x ∈ c.args.toList, x ∈ o.op.operands := fun x hx => by rw [hoc]; simp [Op.operands, Call.operands]; exact .inr (by simpa using hx)
  have hev : c.args.toList.map s'.ev = c.args.toList.map s.ev := List.map_congr_left fun x hx => ev_agree ha.1.2 ha.2.2.1 (hop x hx)
  have hto : toArgs s'.hp (c.args.toList.map s'.ev) = some (p1, pc, pl) := by
    rw [hev, ← hp]
    refine toArgs_same _ fun v hv id hid => ?_
    obtain ⟨x, hx, rfl⟩ := List.mem_map.1 hv
    exact ha.2.2.2 id (withinB_ok hw (by rw [readsHp, hoc]) x (hop x hx) id hid)
  unfold Yo
  rw [hoc]
  simp only
  rw [hcal]
  exact .inl ⟨(g, c.args.toList.map s'.ev), (p1, pc, pl), r, [], by simp [calleeA, St.ev], hcon.fn, hto, hpc, (hsh _).symm, by simp, fun h => ⟨rfl, hl h⟩, by rw [ha.1.2]; exact hcon.calls⟩

/-- Slots, empty or filled. -/
def slotsB (B : List Nat) (hp : List AObj) : Bool := B.all fun k => match hp[k]? with
  | some .slot | some (.var _) => true
  | _ => false
theorem slotsB_at {B : List Nat} {hp : List AObj} (h : slotsB B hp = true) {k : Nat} (hk : k ∈ B) : hp[k]? = some .slot ∨ ∃ cs, hp[k]? = some (.var cs) := by
  have := List.all_eq_true.1 h k hk
  split at this
  · rename_i e; exact .inl e
  · rename_i cs e; exact .inr ⟨cs, e⟩
  · cases this
theorem slotsB_lt {B : List Nat} {hp : List AObj} (h : slotsB B hp = true) {k : Nat} (hk : k ∈ B) : k < hp.length := by
  rcases slotsB_at h hk with e | ⟨_, e⟩ <;> exact (List.getElem?_eq_some_iff.1 e).1
theorem fok_append {B : List Nat} {n : Nat} (hB : ∀ k ∈ B, k < n) (U : List AObj) : FOk B n fun hp => hp ++ U := fun hp k hk hn => by
  have := hB k hk
  exact ⟨List.getElem?_append_left (by omega), fun o => by simp only; rw [List.set_append_left k o (by omega)]⟩

/-- A call of a plain function that hands out objects. -/
theorem regI_ecall {i : Nat} {is : List Nat} {s1 : St} {c : Call} {g : FuncId} {p1 : List AV} {pc : Prop} {pl : Bool} {r : AV} {H' : List AObj} (hcon : Con P s.gl g p1 r H') (ho : ops[i]? = some o) (hoc : o.op = .call c) (hcal : c.callee = .value (.func g))
    (hg : guardA ops s o = some true) (hp : toArgs s.hp (c.args.toList.map s.ev) = some (p1, pc, pl)) (hpc : pc) (hl : pl = true → H' = [] ∧ isScalar r = true) (hR : ∀ k, ∀ id ∈ R k, id < s.hp.length)
    (hs : ({ s with hp := s.hp ++ H'.map (objShift s.hp.length) } : St).setd o.dst (shift s.hp.length r) = some s1) (hk : regI P T own ops B R K is s1) (hown : (own (o.dst.getD 0) && !own (o.dst.getD 0 + 1000)) = true := by rfl)
    (hS : slotsB B s.hp = true := by rfl) (hBa : ∀ v ∈ c.args.toList.map s.ev, ∀ id ∈ refsD v, id ∉ B := by simp) : regI P T own ops B R K (i :: is) s := by
  have hown1 : own (o.dst.getD 0) = true := by rw [Bool.and_eq_true] at hown; exact hown.1
  have hv : valKind own o = false := by simp only [valKind, hoc, hcal, hown1]; rfl
  have hv2 : effKind own o = true := by simp only [effKind, hoc, hcal, hown]
  refine ⟨o, ho, .inr (.inl ⟨hv, hv2, shift s.hp.length r, fun hp => hp ++ H'.map (objShift s.hp.length), s1, fun s' ha => ⟨true, by rw [guard_agree ha.2.2.1]; exact hg, ?_⟩, fok_append (fun k hk => slotsB_lt hS hk) _, fun k _ id hid => List.getElem?_append_left (hR k id hid), hs, hk⟩)⟩
  rw [if_pos rfl]
  have hop : ∀ x ∈ c.args.toList, x ∈ o.op.operands := fun x hx => by rw [hoc]; simp [Op.operands, Call.operands]; exact .inr (by simpa using hx)
  have hev : c.args.toList.map s'.ev = c.args.toList.map s.ev := List.map_congr_left fun x hx => ev_agree ha.1.2 ha.2.2.1 (hop x hx)
  have hh : s'.hp.length = s.hp.length := ha.2.2.2.1.1
  have hto : toArgs s'.hp (c.args.toList.map s'.ev) = some (p1, pc, pl) := by
    rw [hev, ← hp]
    exact toArgs_same _ fun v hv id hid => ha.2.2.2.1.2 id (hBa v hv id hid)
  unfold Yo
  rw [hoc]
  simp only
  rw [hcal]
  exact .inl ⟨(g, c.args.toList.map s'.ev), (p1, pc, pl), r, H', by simp [calleeA, St.ev], hcon.fn, hto, hpc, by rw [hh], by rw [hh], hl, by rw [ha.1.2]; exact hcon.calls⟩

/-- A step at a place of its own. -/
theorem regI_bar (hT : TTOk P T) {i : Nat} {is : List Nat} {r : St} (ho : ops[i]? = some o) (hk : valKind own o = false) (he : effKind own o = false) (hgd : o.guard = none) (hf : opf T own o s = some r) (hc : r.cond)
    (hk2 : regI P T own ops B R K is { r with cond := True }) (hsl : slotKind own o = false := by rfl) : regI P T own ops B R K (i :: is) s := by
  refine ⟨o, ho, .inr (.inr (.inl ⟨hk, he, hsl, hgd, fun c hc2 => by (simp only [opf, hc2] at hf; cases hf), fun E0 H0 w0 E a w N Q hm hn => ?_⟩))⟩
  obtain ⟨_, x, w', E', hrun, hr⟩ := opf_sound hT hm hf hc
  show o.upon P a N Q ((execOp a.eval o).run P w)
  rw [hrun]
  cases x with
  | value v => exact hn _ E' v w' ⟨trivial, hk2⟩ (hr.cond True)
  | skip => exact hn _ E' _ w' ⟨trivial, hk2⟩ (hr.cond True)
  | _ => exact hr.elim

/-- A variable in its slot. -/
theorem regI_slot {i : Nat} {is : List Nat} {t : TypeId} {d : Nat} {ts : TS} (k : Nat) (ho : ops[i]? = some o) (hop : o.op = .alloc t) (hd : o.dst = some d) (hown : own d = true) (hg : o.guard = none) (ht : T t = some ts) (hkB : k ∈ B) (hkR : ∀ i, k ∉ R i)
    (hb : s.base ≤ k) (hs : s.hp[k]? = some .slot) (hn : Nat.blt d s.n = true) (hk : regI P T own ops B R K is { s with ch := (d, .hptr k 0 0) :: s.ch, hp := s.hp.set k (.var ts.zero) }) : regI P T own ops B R K (i :: is) s :=
  ⟨o, ho, .inr (.inr (.inr ⟨_, ⟨by simp only [valKind, hop], by simp [effKind, hop, hd, hown], by simp [slotKind, hop, hd, hown], hg, t, d, ts, k, hop, hd, ht, hkB, hkR, hb, hs, hn, rfl⟩, hk⟩))⟩

theorem regI_slot2 {i : Nat} {is : List Nat} {t : TypeId} {d : Nat} {z : List AV} {s1 : St} (k : Nat) (ho : ops[i]? = some o) (hop : o.op = .alloc t) (hd : o.dst = some d) (hown : own d = true) (hg : o.guard = none) (hkB : k ∈ B) (hkR : ∀ i, k ∉ R i)
    (hb : s.base ≤ k) (hs : s.hp[k]? = some .slot) (hn : Nat.blt d s.n = true) (hz : (T t).map TS.zero = some z) (he : ({ s with ch := (d, .hptr k 0 0) :: s.ch, hp := s.hp.set k (.var z) } : St) = s1) (hk : regI P T own ops B R K is s1) : regI P T own ops B R K (i :: is) s := by
  cases ht : T t with
  | none => rw [ht] at hz; cases hz
  | some ts =>
    rw [ht] at hz
    simp only [Option.map_some, Option.some.injEq] at hz
    subst hz; subst he
    exact regI_slot k ho hop hd hown hg ht hkB hkR hb hs hn hk

theorem regI_nil (h : K s) : regI P T own ops B R K [] s := h

end
end Go.Av

namespace Go.Av
variable [Drawn]

def ObjsLe (hp : List AObj) (L : List (Option Nat)) (base : Nat) : Nat → List AObj → Prop
  | _, [] => True
  | i, o :: os => ObjLe hp L base i o ∧ ObjsLe hp L base (i + 1) os

def ChLe (hp : List AObj) (L : List (Option Nat)) (base : Nat) (ch : List (Nat × AV)) : List (Nat × AV) → Prop
  | [] => True
  | p :: r => AvLe hp L base (look ch p.1) p.2 ∧ ChLe hp L base ch r

theorem ObjsLe.get {hp : List AObj} {L : List (Option Nat)} {base : Nat} : ∀ {i : Nat} {os : List AObj}, ObjsLe hp L base i os → ∀ (k : Nat) o, os[k]? = some o → ObjLe hp L base (i + k) o
  | i, [], _, k, o, h => by simp at h
  | i, o :: os, h, k, o', hk => by
    cases k with
    | zero => simp at hk; subst hk; exact h.1
    | succ k =>
      have := ObjsLe.get h.2 k o' (by simpa using hk)
      rw [show i + (k + 1) = i + 1 + k by omega]; exact this

theorem ChLe.mem {hp : List AObj} {L : List (Option Nat)} {base : Nat} {ch : List (Nat × AV)} : ∀ {ch' : List (Nat × AV)}, ChLe hp L base ch ch' → ∀ p ∈ ch', AvLe hp L base (look ch p.1) p.2
  | [], _, p, h => by simp at h
  | q :: r, h, p, hp => by
    rcases List.mem_cons.1 hp with e | e
    · subst e; exact h.1
    · exact ChLe.mem h.2 p e

theorem ObjLe.var' {hp : List AObj} {L : List (Option Nat)} {base i id : Nat} {cs cs' : List AV} (h1 : L[i]? = some (some id)) (h2 : hp[id]? = some (.var cs)) (hc : All2 (AvLe hp L base) cs cs') (hf : cs'.all isCell = true) : ObjLe hp L base i (.var cs') :=
  ⟨id, cs, h1, h2, hc.len, fun j c c' h h' => ⟨List.all_eq_true.1 hf c' (List.mem_of_getElem? h'), hc.get j c c' h h'⟩⟩

theorem ObjLe.arr' {hp : List AObj} {L : List (Option Nat)} {base i id sz n m : Nat} {row row' : Nat → List AV} (h1 : L[i]? = some (some id)) (h2 : hp[id]? = some (.arr sz m row)) (hn : n ≤ m) (hr : ∀ k, k < n → row k = row' k) : ObjLe hp L base i (.arr sz n row') :=
  .inr ⟨id, m, row, h1, h2, hn, hr⟩

theorem ObjLe.mit0 {hp : List AObj} {L : List (Option Nat)} {base i id : Nat} {c : Option (AV × AV)} {left : List (AV × AV)} (h1 : L[i]? = some (some id)) (h2 : hp[id]? = some (.miter c left)) : ObjLe hp L base i (.miter c left) := ⟨id, c, h1, h2, .inr rfl⟩
theorem ObjLe.mit1 {hp : List AObj} {L : List (Option Nat)} {base i id : Nat} {c : Option (AV × AV)} {left : List (AV × AV)} (h1 : L[i]? = some (some id)) (h2 : hp[id]? = some (.miter c left)) : ObjLe hp L base i (.miter none left) := ⟨id, c, h1, h2, .inl rfl⟩
theorem ObjLe.map' {hp : List AObj} {L : List (Option Nat)} {base i id : Nat} {es : List (AV × AV)} (h1 : L[i]? = some (some id)) (h2 : hp[id]? = some (.map es)) : ObjLe hp L base i (.map es) := ⟨id, h1, h2⟩

theorem ObjLe.ghost' {hp : List AObj} {L : List (Option Nat)} {base i sz : Nat} {row' : Nat → List AV} (h1 : L[i]? = some none) (hs : 0 < sz) : ObjLe hp L base i (.arr sz 0 row') := .inl ⟨h1, rfl, hs⟩

section
variable {hp : List AObj} {L : List (Option Nat)} {base : Nat} {ch : List (Nat × AV)}
theorem objsLe_nil {i : Nat} : ObjsLe hp L base i [] := trivial
theorem objsLe_cons {i : Nat} {o : AObj} {os : List AObj} (h : ObjLe hp L base i o) (t : ObjsLe hp L base (i + 1) os) : ObjsLe hp L base i (o :: os) := ⟨h, t⟩
theorem chLe_nil : ChLe hp L base ch [] := trivial
theorem chLe_cons {k : Nat} {v : AV} {r : List (Nat × AV)} (h : AvLe hp L base (look ch k) v) (t : ChLe hp L base ch r) : ChLe hp L base ch ((k, v) :: r) := ⟨h, t⟩
end

theorem AvLe.sl' {hp : List AObj} {L : List (Option Nat)} {base id id' b b' n n' : Nat} (h : L[id']? = some (some id)) (hb : b' = b) (hn : n' = n) : AvLe hp L base (.sl id b n) (.sl id' b' n') := by
  subst hb; subst hn; exact .sl _ _ _ _ h

theorem Reloc.mk2 {s : St} (L : List (Option Nat)) {ch' : List (Nat × AV)} {hp' : List AObj} {n : Nat} {c : Prop} {gl : List (Nat × AV)} (hb : s.base = 0) (hn : n = s.n) (hgl : gl = s.gl) (hlen : hp'.length = L.length) (hinj : L.Pairwise fun a b => a = none ∨ a ≠ b)
    (hobj : ObjsLe s.hp L 0 0 hp') (hch : ChLe s.hp L 0 s.ch ch') : Reloc s { ch := ch', hp := hp', base := 0, n := n, cond := c, gl := gl } := by
  refine ⟨hb.symm, ⟨hn, hgl⟩, L, ⟨hlen, by omega, fun i hi => by omega, fun i j id h1 h2 _ _ => inj_of hinj i j id h1 h2, fun i o ho => ?_⟩, ?_⟩
  · rw [hb]; have := hobj.get i o ho; rwa [Nat.zero_add] at this
  · rw [hb]; exact look_le hch.mem

theorem relocH_of {hp hp' : List AObj} {L : List (Option Nat)} (hlen : hp'.length = L.length) (hinj : L.Pairwise fun a b => a = none ∨ a ≠ b) (hobj : ObjsLe hp L 0 0 hp') : RelocH L 0 hp hp' :=
  ⟨hlen, Nat.zero_le _, fun i hi => by omega, fun i j id h1 h2 _ _ => inj_of hinj i j id h1 h2, fun i o ho => by have := hobj.get i o ho; rwa [Nat.zero_add] at this⟩

/-- An owned slice is frozen, its array being dropped. -/
theorem AvLe.frz2 {hp : List AObj} {L : List (Option Nat)} {base id b n n' sz m : Nat} {row row' : Nat → List AV} (h : hp[id]? = some (.arr sz m row)) (hL : some id ∉ L) (hb : base = 0) (hn' : n' = n) (hn : b + n ≤ m) (hr : ∀ i, i < n → row (b + i) = row' i) : AvLe hp L base (.sl id b n) (.list n' row') := by
  subst hn'
  exact .frz id b n' sz m row row' h (by omega) hL hn hr

end Go.Av

namespace Go.Av
variable [Drawn]

theorem Con.args {P : Program} {G : List (Nat × AV)} {f : FuncId} {args args' : List AV} {r : AV} {H' : List AObj} (h : Con P G f args r H') (ha : All2 (AvLe [] [] 0) args' args) : Con P G f args' r H' := by
  refine ⟨h.fn, fun E w vals hh hg hv => ?_⟩
  have hl : RelocH [] 0 ([] : List AObj) [] := relocH_nil
  have hh' := reloc_heap hh hl
  have hv' : ArgsRep (renv E [] 0 [] []) w args vals := ⟨by have := ha.len; have := hv.1; omega, fun i c hc => by
    have hi : i < args'.length := by have := ha.len; have := get_lt hc; omega
    exact reloc_rep hh hl (ha.get i _ c (List.getElem?_eq_getElem hi) hc) (hv.2 i _ (List.getElem?_eq_getElem hi))⟩
  refine (h.calls _ w vals hh' (hg.mono fun _ hb => .inl hb) hv').mono fun e w' he => ?_
  cases e with
  | returned x =>
    obtain ⟨r', H'', E', hK, hr, haf⟩ := he
    refine ⟨r', H'', E', hK, hr, haf.heap, ?_, fun b hb => haf.F b (.inl hb), fun b hb => ?_, haf.len, fun id hi => by simp at hi, fun id b h1 h2 h3 => .inl ((haf.new id b h1 h2 h3).resolve_right owned_nil)⟩
    · exact ⟨haf.keeps.os, haf.keeps.tape, haf.keeps.output, haf.keeps.size, fun b hb _ => haf.keeps.block b hb (fun ⟨id, ⟨o, ho, _⟩, _⟩ => by simp at ho), haf.keeps.frz, haf.keeps.drawn⟩
    · rcases haf.Fnew b hb with g | g | g
      · rcases g with g | ⟨id, _, ⟨o, ho, _⟩, _⟩
        · exact .inl g
        · simp at ho
      · exact .inr (.inl g)
      · exact absurd g owned_nil
  | _ => exact he

end Go.Av

namespace Go.Av
variable [Drawn]
open Go.ChangeShapes Go.RowKit

structure Cod (α : Type) where
  cells : α → List AV
  sz : α → Nat
  ok : α → Prop

def frz0 (w : World) : Nat → Prop := fun b => b < w.heap.size

structure BulkOk {H : Type} (B : DataW H → Nat) : Prop where
  str : ∀ l, l.length + 1 ≤ B (.lit (.string l))
  one : ∀ d, 1 ≤ B d
  slice : ∀ es sp, (es.map B).sum + 1 ≤ B (.slice es sp)
  agg : ∀ ps, (ps.map B).sum + 1 ≤ B (.agg ps)

def RowRep (w : World) (as : List AV) (cs : List Value) : Prop :=
  cs.length = as.length ∧ ∀ (j : Nat) c, as[j]? = some c → isFree c = true ∧ RepF (frz0 w) w c (cs.getD j default)

theorem RowRep.nil (w : World) : RowRep w [] [] := ⟨rfl, fun j c h => by simp at h⟩

theorem RowRep.append {w : World} {as bs : List AV} {cs ds : List Value} (h : RowRep w as cs) (k : RowRep w bs ds) : RowRep w (as ++ bs) (cs ++ ds) := by
  refine ⟨by simp [h.1, k.1], fun j c hj => ?_⟩
  rcases Nat.lt_or_ge j as.length with g | g
  · rw [List.getElem?_append_left g] at hj
    have := h.2 j c hj
    rwa [List.getD, List.getElem?_append_left (by rw [h.1]; exact g)]
  · rw [List.getElem?_append_right g] at hj
    have := k.2 _ c hj
    rwa [List.getD, List.getElem?_append_right (by rw [h.1]; exact g), h.1]

theorem RowRep.one {w : World} {a : AV} {v : Value} (hf : isFree a = true) (h : RepF (frz0 w) w a v) : RowRep w [a] [v] := by
  refine ⟨rfl, fun j c hj => ?_⟩
  cases j with
  | zero => simp at hj; subst hj; exact ⟨hf, h⟩
  | succ j => simp at hj

structure Opens (P : Program) (n : Nat) (t : TypeId) {α : Type} (c : Cod α) : Prop where
  go : ∀ {H : Type} {enc : TypeId × Value → H} {B : DataW H → Nat} (_ : BulkOk B) {w : World} {base : Nat} {spare : Nat → Bool} {held : Bool} {fuel : Nat} {cs : List Value} {x : DataW H × List MemPlace},
    fuel ≤ n → DataW.trod enc P w base spare held fuel t cs = some x → ∃ a, c.ok a ∧ c.sz a ≤ B x.1 ∧ RowRep w (c.cells a) cs

section
variable {P : Program} {n : Nat} {t e : TypeId} {α β : Type}

theorem Opens.map {c : Cod α} (h : Opens P n t c) (c' : Cod β) (g : α → β) (hok : ∀ a, c.ok a → c'.ok (g a)) (hsz : ∀ a, c'.sz (g a) ≤ c.sz a) (hc : ∀ a, c'.cells (g a) = c.cells a) : Opens P n t c' := by
  constructor
  intro H enc B hB w base spare held fuel cs x hn hx
  obtain ⟨a, h1, h2, h3⟩ := h.go hB hn hx
  exact ⟨g a, hok a h1, Nat.le_trans (hsz a) h2, by rw [hc]; exact h3⟩

theorem opens_any {c : Cod α} (h : ∀ n, Opens P (n + 1) t c) (n : Nat) : Opens P n t c := by
  cases n with
  | zero =>
    constructor
    intro H enc B hB w base spare held fuel cs x hn hx
    have : fuel = 0 := by omega
    subst this; simp [DataW.trod] at hx
  | succ n => exact h n

def codBool : Cod Bool := ⟨fun b => [.bool b], fun _ => 1, fun _ => True⟩
def codInt (k : IntKind) : Cod Int := ⟨fun n => [.int k n], fun _ => 1, fun n => (Lit.int k n).wf = true⟩
def codStr : Cod ByteArray := ⟨fun s => [.str s], fun s => s.size + 1, fun _ => True⟩
def codList [Inhabited α] (c : Cod α) : Cod (List α) := ⟨fun l => [.list l.length fun i => c.cells (l.getD i default)], fun l => (l.map c.sz).sum + 1, fun l => ∀ a ∈ l, c.ok a⟩
def codUnit : Cod Unit := ⟨fun _ => [], fun _ => 0, fun _ => True⟩
def codProd (c : Cod α) (d : Cod β) : Cod (α × β) := ⟨fun p => c.cells p.1 ++ d.cells p.2, fun p => c.sz p.1 + d.sz p.2, fun p => c.ok p.1 ∧ d.ok p.2⟩

theorem opens_bool (ht : P.underlying t = some .bool) : Opens P n t codBool := by
  constructor
  intro H enc B hB w base spare held fuel cs x hn hx
  obtain ⟨b, rfl, rfl⟩ := DataW.trod_bool ht hx
  exact ⟨b, trivial, hB.one _, RowRep.one rfl (.bool b)⟩

theorem opens_int {k : IntKind} (ht : P.underlying t = some (.int k)) : Opens P n t (codInt k) := by
  constructor
  intro H enc B hB w base spare held fuel cs x hn hx
  obtain ⟨b, rfl, rfl, hw⟩ := DataW.trod_int ht hx
  exact ⟨b, hw, hB.one _, RowRep.one rfl (.int k b)⟩

theorem opens_str (ht : P.underlying t = some .string) : Opens P n t codStr := by
  constructor
  intro H enc B hB w base spare held fuel cs x hn hx
  obtain ⟨b, rfl, rfl, hw⟩ := DataW.trod_string ht hx
  exact ⟨b, trivial, by have := hB.str b.data.toList; simp only [codStr]; have e : b.data.toList.length = b.size := by rw [Array.length_toList]; rfl
                        omega, RowRep.one rfl (.str b)⟩

theorem listOfD {α : Type} [Inhabited α] {n : Nat} {R : Nat → α → Prop} (h : ∀ j, j < n → ∃ v, R j v) : ∃ l : List α, l.length = n ∧ ∀ j, j < n → R j (l.getD j default) := by
  induction n with
  | zero => exact ⟨[], rfl, fun j hj => by omega⟩
  | succ n ih =>
    obtain ⟨l, hl, hr⟩ := ih fun j hj => h j (by omega)
    obtain ⟨v, hv⟩ := h n (by omega)
    refine ⟨l ++ [v], by simp [hl], fun j hj => ?_⟩
    rcases Nat.lt_or_ge j n with g | g
    · have := hr j g
      rwa [List.getD, List.getElem?_append_left (by omega)]
    · have : j = n := by omega
      subst this
      rw [List.getD, List.getElem?_append_right (by omega)]
      simpa [hl] using hv

theorem sum_le_sum {γ : Type} [Inhabited α] (f : α → Nat) (g : γ → Nat) : ∀ (l : List α) (m : List γ), l.length = m.length → (∀ i y, m[i]? = some y → f (l.getD i default) ≤ g y) → (l.map f).sum ≤ (m.map g).sum
  | [], [], _, _ => Nat.le_refl _
  | a :: l, y :: m, hl, h => by
    have h0 := h 0 y rfl
    have := sum_le_sum f g l m (by simpa using hl) (fun i z hi => by simpa using h (i + 1) z (by simpa using hi))
    simp only [List.map_cons, List.sum_cons]
    have h0' : f a ≤ g y := by simpa using h0
    omega

theorem cell_spot {w : World} {a : Addr} {v : Value} (h : w.cell? a = some v) : a.spot = none := by
  unfold World.cell? at h
  split at h
  · split at h
    · cases h
    · rename_i hs; simpa using hs
  · cases h

theorem opens_slice [Inhabited α] {c : Cod α} (ht : P.underlying t = some (.slice e)) (hsz : ∀ a, (c.cells a).length = P.cellsOf e) (hpos : 0 < P.cellsOf e) (he : Opens P n e c) : Opens P (n + 1) t (codList c) := by
  constructor
  intro H enc B hB w base spare held fuel cs x hn hx
  rcases DataW.trod_slice ht hx with ⟨rfl, rfl⟩ | ⟨a, len, cap, elems, rest, m, rfl, rfl, rfl, hb, hlc, hcm, hlen, hel, _, _⟩
  · exact ⟨[], fun a ha => by simp at ha, hB.one _, RowRep.one rfl (.empty _ none 0)⟩
  · have each : ∀ i, i < len → ∃ y : α, ∃ cs' z, w.cells? base (a.add (i * P.cellsOf e)) (P.cellsOf e) = some cs' ∧ elems[i]? = some z ∧ c.ok y ∧ c.sz y ≤ B z.1 ∧ RowRep w (c.cells y) cs' := by
      intro i hi
      have h1 := hel i hi
      rw [List.getElem?_eq_getElem (by omega), Option.bind_eq_some_iff] at h1
      obtain ⟨cs', h1, h2⟩ := h1
      obtain ⟨y, g1, g2, g3⟩ := he.go hB (by omega) h2
      exact ⟨y, cs', _, h1, List.getElem?_eq_getElem (by omega), g1, g2, g3⟩
    obtain ⟨l, hl, hr⟩ := listOfD each
    refine ⟨l, ?_, ?_, ?_⟩
    · intro y hy
      obtain ⟨i, hi⟩ := List.getElem?_of_mem hy
      have hi' := get_lt hi
      obtain ⟨cs', z, _, _, g, _⟩ := hr i (by omega)
      have e1 : l.getD i default = y := by simp [List.getD, hi]
      rwa [e1] at g
    · have h1 := hB.slice (elems.map (·.1)) (rest.map (·.1))
      have h2 := sum_le_sum c.sz (fun z : DataW H × List MemPlace => B z.1) l elems (by omega) (fun i y hi => by
        have hi' := get_lt hi
        obtain ⟨cs', z, _, g0, _, g, _⟩ := hr i (by omega)
        rw [hi] at g0; cases g0; exact g)
      rw [List.map_map] at h1
      exact Nat.le_trans (Nat.succ_le_succ h2) h1
    · have hcell : ∀ i j, i < len → j < P.cellsOf e → ∃ v, w.cell? ⟨a.block, a.off + (i * P.cellsOf e + j), none⟩ = some v ∧ ∀ y, (c.cells (l.getD i default))[j]? = some y → isFree y = true ∧ RepF (frz0 w) w y v := by
        intro i j hi hj
        obtain ⟨cs', z, g1, _, _, _, g2⟩ := hr i hi
        obtain ⟨_, g3, g4⟩ := World.cells?_some g1
        have hlt : j < cs'.length := by omega
        refine ⟨cs'[j], ?_, fun y hy => ?_⟩
        · have h5 := g4 j hj
          rw [List.getElem?_eq_getElem hlt] at h5
          have hspot := cell_spot h5
          have ha : (a.add (i * P.cellsOf e)).add j = ⟨a.block, a.off + (i * P.cellsOf e + j), none⟩ := by
            obtain ⟨b0, o0, s0⟩ := a
            unfold Addr.add at hspot ⊢
            by_cases q1 : j = 0
            · subst q1
              by_cases q2 : i * P.cellsOf e = 0
              · simp [q2] at hspot; subst hspot; simp [q2]
              · simp [q2]
            · simp only [q1, if_false]
              by_cases q2 : i * P.cellsOf e = 0
              · simp [q2]
              · simp [q2, Nat.add_assoc]
          rw [ha] at h5; exact h5
        · have := g2.2 j y hy
          rwa [List.getD, List.getElem?_eq_getElem hlt, Option.getD_some] at this
      cases len with
      | zero =>
        have e1 : l = [] := List.eq_nil_of_length_eq_zero hl
        subst e1
        exact RowRep.one rfl (.empty _ _ _)
      | succ len =>
        have hspot : a.spot = none := by
          obtain ⟨cs', z, g1, _⟩ := hr 0 (by omega)
          obtain ⟨_, g3, g4⟩ := World.cells?_some g1
          have h5 := g4 0 hpos
          rw [List.getElem?_eq_getElem (by omega)] at h5
          have := cell_spot h5
          rw [Nat.zero_mul] at this
          simpa [Addr.add] using this
        have hblk : a.block < w.heap.size := by
          obtain ⟨v, hv, _⟩ := hcell 0 0 (by omega) hpos
          exact World.block_lt_of_cell? w ⟨a.block, a.off + (0 * P.cellsOf e + 0), none⟩ hv
        have ea : a = ⟨a.block, a.off, none⟩ := by
          obtain ⟨b0, o0, s0⟩ := a
          simp at hspot; subst hspot; rfl
        refine RowRep.one rfl ?_
        show RepF _ _ (.list l.length _) _
        rw [hl, ea]
        refine .list (len + 1) _ a.block a.off cap (P.cellsOf e) (fun i j => (w.cell? ⟨a.block, a.off + (i * P.cellsOf e + j), none⟩).getD default) hblk hlc (fun i hi => hsz _) ?_ ?_ ?_
        · intro i j y hi hy
          have hj : j < P.cellsOf e := by have := get_lt hy; rw [hsz] at this; exact this
          obtain ⟨v, hv, _⟩ := hcell i j hi hj
          rw [hv]; rfl
        · intro i j y hi hy
          have hj : j < P.cellsOf e := by have := get_lt hy; rw [hsz] at this; exact this
          obtain ⟨v, hv, g⟩ := hcell i j hi hj
          exact (g y hy).1
        · intro i j y hi hy
          have hj : j < P.cellsOf e := by have := get_lt hy; rw [hsz] at this; exact this
          obtain ⟨v, hv, g⟩ := hcell i j hi hj
          rw [hv]; exact (g y hy).2

theorem sum_ones [Inhabited α] (f : α → Nat) (l : List α) (h : ∀ a, 1 ≤ f a) : l.length ≤ (l.map f).sum := by
  induction l with
  | nil => simp
  | cons a l ih => have := h a; simp; omega

theorem opens_slice' [Inhabited α] {c : Cod α} {k : Nat} (ht : P.underlying t = some (.slice e)) (hk : P.cellsOf e = k + 1) (hsz : ∀ a, (c.cells a).length = k + 1) (he : Opens P n e c) : Opens P (n + 1) t (codList c) :=
  opens_slice ht (fun a => by rw [hsz, hk]) (by omega) he

def totalF (P : Program) : List Field → Nat
  | [] => 0
  | f :: fs => P.cellsOf f.type + totalF P fs

structure OpensF (P : Program) (n : Nat) (fs : List Field) (off : Nat) {α : Type} (c : Cod α) : Prop where
  go : ∀ {H : Type} {enc : TypeId × Value → H} {B : DataW H → Nat} (_ : BulkOk B) {w : World} {base : Nat} {spare : Nat → Bool} {held : Bool} {fuel : Nat} {cs : List Value} {xs : List (DataW H × List MemPlace)},
    fuel ≤ n → off + totalF P fs ≤ cs.length → xs.length = fs.length → (∀ (i : Nat) f, fs[i]? = some f → DataW.trod enc P w base spare held fuel f.type ((cs.drop f.offset).take (P.cellsOf f.type)) = xs[i]?) →
    ∃ a, c.ok a ∧ c.sz a ≤ (xs.map fun x => B x.1).sum ∧ RowRep w (c.cells a) ((cs.drop off).take (totalF P fs))

theorem opensF_nil {off : Nat} : OpensF P n [] off codUnit := by
  constructor
  intro H enc B hB w base spare held fuel cs xs hn hl hx hf
  refine ⟨(), trivial, Nat.zero_le _, ?_⟩
  simp only [totalF, List.take_zero]
  exact RowRep.nil w

theorem opensF_cons {f : Field} {fs : List Field} {off : Nat} {c : Cod α} {d : Cod β} (hoff : f.offset = off) (h : Opens P n f.type c) (hs : OpensF P n fs (off + P.cellsOf f.type) d) : OpensF P n (f :: fs) off (codProd c d) := by
  constructor
  intro H enc B hB w base spare held fuel cs xs hn hl hx hf
  match xs, hx with
  | x :: xs, hx =>
    have h0 := hf 0 f rfl
    simp only [List.getElem?_cons_zero] at h0
    simp only [totalF] at hl
    obtain ⟨a, a1, a2, a3⟩ := h.go hB hn h0
    obtain ⟨b, b1, b2, b3⟩ := hs.go (xs := xs) (cs := cs) hB hn (by omega) (by simpa using hx) (fun i g hg => by simpa using hf (i + 1) g (by simpa using hg))
    refine ⟨(a, b), ⟨a1, b1⟩, by simp only [codProd, List.map_cons, List.sum_cons]; omega, ?_⟩
    have e1 : (cs.drop off).take (totalF P (f :: fs)) = (cs.drop off).take (P.cellsOf f.type) ++ (cs.drop (off + P.cellsOf f.type)).take (totalF P fs) := by
      simp only [totalF]
      rw [List.take_add, List.drop_drop]
    rw [e1]
    rw [hoff] at a3
    exact a3.append b3

theorem opens_struct {fs : Array Field} {c : Cod α} (ht : P.underlying t = some (.struct fs)) (htot : totalF P fs.toList = P.cellsOf t) (h : OpensF P n fs.toList 0 c) : Opens P (n + 1) t c := by
  constructor
  intro H enc B hB w base spare held fuel cs x hn hx
  obtain ⟨xs, m, rfl, rfl, hl, hlen, hf⟩ := DataW.trod_struct ht hx
  obtain ⟨a, a1, a2, a3⟩ := h.go hB (xs := xs) (fuel := m) (cs := cs) (by omega) (by rw [htot, hl]; omega) (by simpa using hlen) (fun i f hi => hf i f (by simpa using hi))
  refine ⟨a, a1, ?_, ?_⟩
  · have := hB.agg (xs.map (·.1))
    rw [List.map_map] at this
    exact Nat.le_trans a2 (by exact Nat.le_trans (Nat.le_succ _) this)
  · rw [List.drop_zero, htot, ← hl, List.take_length] at a3
    exact a3

/-! ### arguments -/

def E0of (w : World) : Env := { F := frz0 w, N := 0, ρ := fun _ => none, σ := fun _ => 0, κ := fun _ => 0, ω := fun _ => 0 }

theorem E0of_ok (w : World) : HeapOk (E0of w) [] w where
  len := rfl
  obj id o h := by simp at h
  lt id b h := by obtain ⟨o, ho, _⟩ := h; simp at ho
  fr id b h := by obtain ⟨o, ho, _⟩ := h; simp at ho
  inj i j b h := by obtain ⟨o, ho, _⟩ := h; simp at ho
  frz b h := h

structure OpensA (P : Program) (t : TypeId) {α : Type} (c : Cod α) (av : α → AV) : Prop where
  go : ∀ {H : Type} {enc : TypeId × Value → H} {B : DataW H → Nat} (_ : BulkOk B) {w : World} {base : Nat} {spare : Nat → Bool} {held : Bool} {b0 : Nat} {v : Value} {d : DataW H} {ps : List MemPlace},
    DataW.Trod enc P w base spare held t v d ps → Value.okWide P w .any b0 t v → ∃ a, c.ok a ∧ c.sz a ≤ B d ∧ Rep (E0of w) w (av a) v

theorem opensA_agg {fs : Array Field} {c : Cod α} (ht : P.underlying t = some (.struct fs)) (h : ∀ n, Opens P n t c) : OpensA P t c fun a => .agg (c.cells a) := by
  constructor
  intro H enc B hB w base spare held b0 v d ps ⟨fuel, hx⟩ hok
  obtain ⟨a, a1, a2, a3⟩ := (h fuel).go hB (Nat.le_refl _) hx
  unfold Value.okWide at hok
  rw [ht] at hok
  obtain ⟨cs, rfl, _, _⟩ := hok
  refine ⟨a, a1, a2, ?_⟩
  have e : (Value.agg cs) = .agg ((Value.agg cs).cells.toList).toArray := by simp [Value.cells]
  rw [e]
  exact .agg _ _ a3.1 fun i x hi => .fz _ _ (a3.2 i x hi).2

theorem opensA_cell {c : Cod α} {av : α → AV} (hc : ∀ a, c.cells a = [av a]) (hd : ∀ d, P.underlying t = some d → match d with | .struct _ | .array _ _ => False | .bool | .string | .int _ | .slice _ => True | _ => False) (h : ∀ n, Opens P n t c) : OpensA P t c av := by
  constructor
  intro H enc B hB w base spare held b0 v d ps ⟨fuel, hx⟩ hok
  obtain ⟨a, a1, a2, a3⟩ := (h fuel).go hB (Nat.le_refl _) hx
  refine ⟨a, a1, a2, ?_⟩
  rw [hc] at a3
  have hna : ∀ cs, v ≠ .agg cs := by
    intro cs e
    subst e
    unfold Value.okWide at hok
    cases hu : P.underlying t with
    | none => rw [hu] at hok; simp [Cell.okWide, Cell.ok, hu] at hok
    | some d =>
      have := hd d hu
      cases d <;> simp [hu, Cell.okWide, Cell.ok] at hok this
  have e : v.cells.toList = [v] := by
    cases v <;> first | rfl | exact absurd rfl (hna _)
  rw [e] at a3
  exact .fz _ _ (a3.2 0 _ rfl).2

theorem trodAll_len {H : Type} {enc : TypeId × Value → H} {w : World} {base : Nat} {spare : Nat → Bool} {held : Bool} : ∀ {ts : List TypeId} {vs : List Value} {ds : List (DataW H)} {ps : List MemPlace}, DataW.TrodAll enc P w base spare held ts vs ds ps → ds.length = ts.length
  | [], _, _, _, h => by obtain ⟨rfl, rfl, rfl⟩ := trodAll_nil h; rfl
  | t :: ts, _, _, _, h => by
    obtain ⟨v, vs', d', ds', p, q, rfl, rfl, rfl, h1, h2⟩ := trodAll_cons h
    simp [trodAll_len h2]

structure OpensL (P : Program) (ts : List TypeId) {α : Type} (c : Cod α) (av : α → List AV) : Prop where
  go : ∀ {H : Type} {enc : TypeId × Value → H} {B : DataW H → Nat} (_ : BulkOk B) {w : World} {base : Nat} {spare : Nat → Bool} {held : Bool} {b0 : Nat} {vs : List Value} {ds : List (DataW H)} {ps : List MemPlace},
    DataW.TrodAll enc P w base spare held ts vs ds ps → (∀ (j : Nat) t v, ts[j]? = some t → vs[j]? = some v → Value.okWide P w .any b0 t v) →
    ∃ a, c.ok a ∧ c.sz a ≤ (ds.map B).sum ∧ ArgsRep (E0of w) w (av a) vs

theorem opensL_nil : OpensL P [] codUnit fun _ => [] := by
  constructor
  intro H enc B hB w base spare held b0 vs ds ps h hok
  obtain ⟨rfl, rfl, rfl⟩ := trodAll_nil h
  exact ⟨(), trivial, Nat.zero_le _, rfl, fun i c hi => by simp at hi⟩

theorem opensL_cons {ts : List TypeId} {c : Cod α} {d : Cod β} {av : α → AV} {avs : β → List AV} (h : OpensA P t c av) (hs : OpensL P ts d avs) : OpensL P (t :: ts) (codProd c d) fun p => av p.1 :: avs p.2 := by
  constructor
  intro H enc B hB w base spare held b0 vs ds ps hx hok
  obtain ⟨v, vs', d', ds', p, q, rfl, rfl, rfl, h1, h2⟩ := trodAll_cons hx
  obtain ⟨a, a1, a2, a3⟩ := h.go hB h1 (hok 0 t v rfl rfl)
  obtain ⟨b, b1, b2, b3, b4⟩ := hs.go hB h2 (fun j t v ht hv => hok (j + 1) t v (by simpa using ht) (by simpa using hv))
  refine ⟨(a, b), ⟨a1, b1⟩, by simp only [codProd, List.map_cons, List.sum_cons]; omega, by simp [b3], fun i x hi => ?_⟩
  cases i with
  | zero => simp at hi; subst hi; simpa using a3
  | succ i => simp at hi; simpa using b4 i x hi

theorem Con.returns {G : List (Nat × AV)} {f : FuncId} {args : List AV} {b : Bool} (h : Con P G f args (.bool b) []) {w : World} {vals : List Value} (hlaid : Laid G (E0of w) w) (ha : ArgsRep (E0of w) w args vals) :
    Calls P f vals.toArray w fun e w' => e = .returned (.bool b) ∧ Same w w' := by
  refine (h.2 (E0of w) w vals (E0of_ok w) hlaid ha).mono fun e w' he => ?_
  cases e with
  | returned x =>
    obtain ⟨r, H', E', ⟨rfl, rfl⟩, hr, hA⟩ := he
    have := hr.boolV
    subst this
    refine ⟨rfl, hA.keeps.os, hA.keeps.tape, hA.keeps.output, hA.keeps.size, fun b hb => hA.keeps.block b hb ?_, hA.keeps.frz, hA.keeps.drawn⟩
    rintro ⟨id, ⟨o, ho, _⟩, _⟩
    simp at ho
  | _ => exact he.elim

theorem Same.kept {w w' : World} (h : Same w w') (may : MemPlace → Prop) : w.keptBut w' may := World.keptBut_mono (may := fun _ => False) (fun _ (f : False) => f.elim) (by
  refine ⟨h.os, h.output, fun i hi => ?_⟩
  rw [h.block i hi]
  exact (World.keptBut_refl w (fun _ => False)).2.2 i hi)

/-- A row's post, where all that was there stands as it stood. -/
theorem post_of_old {H : Type} {enc : TypeId × Value → H} {f : Func} {s : ChangeSpec} {apart fresh handsOn again : Bool} {W W' : World} {args : Array Value} {v : Value} {ds gs : List (DataW H)} {before pa pv : List MemPlace}
    (hW : DataW.Whole enc P f.params.toList s.vars apart W args.toList ds gs before)
    (hres : ∀ (b : Nat) (sp : Nat → Bool) (hd : Bool), DataW.TrodAll enc P W' b sp hd f.resultTypes.toList (v.resultList f.resultTypes.size) (s.fn H (ds ++ gs)).results [])
    (hargs : ∀ sp : Nat → Bool, (∀ p ∈ before, sp p.block = true) → DataW.TrodAll enc P W' 0 sp true f.params.toList args.toList (s.fn H (ds ++ gs)).args pa)
    (hvars : ∀ sp : Nat → Bool, (∀ p ∈ before, sp p.block = true) → DataW.TrodVars enc P W' sp s.vars (s.fn H (ds ++ gs)).vars pv)
    (hps : before = pa ++ pv) (hk : W.keptBut W' (· ∈ before)) (hfz : ∀ a, a.block < W.heap.size → W'.frozen? a = W.frozen? a)
    (hok : ∀ (j : Nat) (t : TypeId) (r : Value), f.resultTypes[j]? = some t → (v.resultList f.resultTypes.size)[j]? = some r → Value.okWide P W' .any 0 t r) :
    s.post enc P f apart fresh handsOn again W args v W' := by
  have hlt : ∀ p ∈ before, p.block < W.heap.size := fun p hp => hW.lt p hp
  have hold : ∀ p ∈ before, decide (p.block < W.heap.size) = true := fun p hp => decide_eq_true (hlt p hp)
  refine ⟨ds, gs, before, [], pa, pv, hW, hres _ _ _, hargs _ hold, hvars _ hold, World.keptBut_mono (fun p hp => ⟨hp, .inr (by rwa [hps, List.mem_append] at hp)⟩) hk, fun _ => ?_⟩
  obtain ⟨_, _, _, _, _, hz, hn⟩ := hW
  refine ⟨hok, _, _, ([] ++ pa) ++ pv, ⟨[] ++ pa, pv, trodAll_append (hargs _ (fun _ _ => rfl)) (hres _ _ _), hvars _ (fun _ _ => rfl), rfl, fun b off hp => ?_, fun ha => ?_⟩, fun p hp _ => ?_⟩
  · have hp' : MemPlace.cell b off ∈ before := by rw [hps]; simpa using hp
    rw [hfz _ (hlt _ hp')]
    exact hz b off hp'
  · have := hn ha
    rw [hps] at this
    simpa using this
  · rw [hps]
    simpa using hp

theorem Same.trodAll {H : Type} {enc : TypeId × Value → H} {w w' : World} (hs : Same w w') (hl : laidOutB P = true) {sp : Nat → Bool} : ∀ {ts : List TypeId} {vs : List Value} {ds : List (DataW H)} {ps : List MemPlace},
    (∀ t ∈ ts, P.readableRec t = true ∧ t < P.types.size) → DataW.TrodAll enc P w 0 (fun _ => true) true ts vs ds ps → (∀ p ∈ ps, sp p.block = true) → DataW.TrodAll enc P w' 0 sp true ts vs ds ps
  | [], _, _, _, _, h, _ => by obtain ⟨rfl, rfl, rfl⟩ := trodAll_nil h; exact rfl
  | t :: ts, _, _, _, ht, h, hsp => by
    have hlt := DataW.TrodAll.lt h
    obtain ⟨v, vs', d', ds', p, q, rfl, rfl, rfl, h1, h2⟩ := trodAll_cons h
    refine ⟨p, q, ?_, Same.trodAll hs hl (fun u hu => ht u (by simp [hu])) h2 (fun x hx => hsp x (by simp [hx])), rfl⟩
    refine WideElems.Trod_stays hl (ht t (by simp)).1 (ht t (by simp)).2 h1 (fun x hx => ?_) (fun x hx => hsp x (by simp [hx]))
    have hb := hlt x (by simp [hx])
    cases x with
    | cell b off => exact World.cell?_of_block (hs.block b hb)
    | map b => exact hs.block b hb

/-- A row of a law: its contract. -/
theorem law_contract {G : List (Nat × AV)} {f : FuncId} {fn : Func} {s : ChangeSpec} {α : Type} {c : Cod α} {av : α → List AV} {tb : TypeId} (ts : List TypeId) (hps : fn.params.toList = ts) (hrs : fn.resultTypes = #[tb]) (htb : P.underlying tb = some .bool)
    (hl : laidOutB P = true) (hread : ∀ t ∈ ts, P.readableRec t = true ∧ t < P.types.size) (hvars : s.vars = []) (hspec : ∀ (H : Type) (ds : List (DataW H)), ds.length = ts.length → s.fn H ds = { results := [.lit (.bool true)], args := ds })
    (ho : OpensL P ts c av) {N : Nat} (hcon : ∀ a, c.ok a → c.sz a ≤ N → Con P G f (av a) (.bool true) [])
    {H : Type} (enc : TypeId × Value → H) {B : DataW H → Nat} (hB : BulkOk B) (W : World) (hlaid : Laid G (E0of W) W) (base : Nat) (args : Array Value) (ds gs : List (DataW H)) (before : List MemPlace)
    (hval : ∀ (j : Nat) t v, fn.params[j]? = some t → args[j]? = some v → Value.okWide P W .any base t v)
    (hW : DataW.Whole enc P fn.params.toList s.vars false W args.toList ds gs before) (hk : ((ds ++ gs).map B).sum ≤ N) :
    Calls P f args W fun e W' => ∃ v, e = .returned v ∧ s.post enc P fn false true false false W args v W' := by
  have hW' := hW
  obtain ⟨p, q, hA, hV, rfl, hfz, hnd⟩ := hW
  rw [hvars] at hV
  obtain ⟨rfl, rfl⟩ := trodVars_none hV
  rw [hps] at hA
  rw [List.append_nil] at hk
  obtain ⟨a, a1, a2, a3⟩ := ho.go (b0 := base) hB hA (fun j t v ht hv => hval j t v (by rw [← hps] at ht; simpa using ht) (by simpa using hv))
  have hcl := (hcon a a1 (Nat.le_trans a2 hk)).returns hlaid a3
  rw [show args.toList.toArray = args by simp] at hcl
  refine hcl.mono fun e W' ⟨he, hs⟩ => ?_
  subst he
  refine ⟨_, rfl, ?_⟩
  have hlen : ds.length = ts.length := (by have h := hA; clear hcl hfz; exact trodAll_len h)
  have hfn := hspec H ds hlen
  have hrt : fn.resultTypes.toList = [tb] := by rw [hrs]
  have hrl : (Value.bool true).resultList fn.resultTypes.size = [.bool true] := by rw [hrs]; rfl
  refine post_of_old (pa := p) (pv := []) hW' ?_ ?_ ?_ rfl (hs.kept _) hs.frz ?_
  · intro b sp hd
    rw [List.append_nil, hfn, hrt, hrl]
    exact trodAll_cons_mk (shut_bool htb _) trodAll_mk0
  · intro sp hsp
    rw [List.append_nil, hfn, hps]
    exact hs.trodAll hl hread hA (fun x hx => hsp x (by simpa using hx))
  · intro sp hsp
    rw [List.append_nil, hfn, hvars]
    exact rfl
  · intro j t r ht hr
    rw [hrl] at hr
    cases j with
    | zero => simp at hr; subst hr; rw [hrs] at ht; simp at ht; subst ht; exact okWide_bool_mk htb _
    | succ j => simp at hr

end
end Go.Av

namespace Go.Av
variable [Drawn]

theorem rw_at {L : List (List AV)} {i : Nat} {r : List AV} (h : L[i]? = some r) : rw L i = r := by simp [rw, h]

theorem fz_rw (n : Nat) (L : List (List AV)) : fz n (rw L) = rw (L.take n) := by
  funext i
  simp only [fz, rw, List.getElem?_take]
  split <;> rfl

theorem fz_const (n : Nat) (z : List AV) : fz n (constRow z) = rw (List.replicate n z) := by
  funext i
  simp only [fz, rw, constRow, List.getElem?_replicate]
  split <;> rfl

theorem dropRow_rw (b : Nat) (L : List (List AV)) : dropRow b (rw L) = rw (L.drop b) := by
  funext i
  simp [dropRow, rw]

theorem fz_append {n k : Nat} {A B : List (List AV)} (h : A.length = n) : fz (n + k) (appendRow n (rw A) (rw B)) = rw (A ++ B.take k) := by
  funext i
  subst h
  simp only [fz, appendRow, rw]
  by_cases h1 : i < A.length
  · rw [if_pos (by omega), if_pos h1, List.getElem?_append_left h1]
  · rw [if_neg h1, List.getElem?_append_right (by omega), List.getElem?_take]
    by_cases h2 : i - A.length < k
    · rw [if_pos (by omega), if_pos h2]
    · rw [if_neg (by omega), if_neg h2]; rfl

theorem fz_set {n i off : Nat} {new : List AV} {L : List (List AV)} (h : L.length = n) : fz n (setRow i off new (rw L)) = rw (L.set i (splice (rw L i) off new)) := by
  funext j
  subst h
  simp only [fz, setRow, rw, List.getElem?_set]
  by_cases h1 : j < L.length
  · rw [if_pos h1]
    by_cases h2 : j = i
    · subst h2; simp [h1]
    · rw [if_neg h2, if_neg (Ne.symm h2)]
  · rw [if_neg h1]
    by_cases h2 : i = j
    · subst h2; simp [h1]
    · rw [if_neg h2, List.getElem?_eq_none (by omega)]; rfl

theorem fz_clear {m b n : Nat} {z : List AV} {A : List (List AV)} (hA : A.length = m) (hb : b + n ≤ m) : fz m (clearRow b n z (rw A)) = rw (A.take b ++ (List.replicate n z ++ A.drop (b + n))) := by
  funext j
  subst hA
  simp only [fz, clearRow, rw]
  by_cases h1 : j < A.length
  · rw [if_pos h1]
    by_cases h2 : b ≤ j ∧ j < b + n
    · rw [if_pos h2, List.getElem?_append_right (by simp; omega), List.getElem?_append_left (by simp; omega), List.getElem?_replicate, if_pos (by simp; omega)]; rfl
    · rw [if_neg h2]
      by_cases h3 : j < b
      · rw [List.getElem?_append_left (by simp; omega), List.getElem?_take, if_pos h3]
      · rw [List.getElem?_append_right (by simp; omega), List.getElem?_append_right (by simp; omega), List.getElem?_drop]
        congr 2
        simp; omega
  · rw [if_neg h1, List.getElem?_eq_none (by simp; omega)]; rfl

theorem fz_copy {m b k : Nat} {A B : List (List AV)} (hA : A.length = m) (hb : b + k ≤ m) (hB : k ≤ B.length) : fz m (copyRow b k (rw A) (rw B)) = rw (A.take b ++ (B.take k ++ A.drop (b + k))) := by
  funext j
  subst hA
  simp only [fz, copyRow, rw]
  have hl : (A.take b).length = b := by simp; omega
  have hl2 : (B.take k).length = k := by simp; omega
  by_cases h1 : j < A.length
  · rw [if_pos h1]
    by_cases h2 : b ≤ j ∧ j < b + k
    · rw [if_pos h2, List.getElem?_append_right (by omega), hl, List.getElem?_append_left (by omega), List.getElem?_take, if_pos (by omega)]
    · rw [if_neg h2]
      by_cases h3 : j < b
      · rw [List.getElem?_append_left (by omega), List.getElem?_take, if_pos h3]
      · rw [List.getElem?_append_right (by omega), hl, List.getElem?_append_right (by omega), hl2, List.getElem?_drop]
        congr 2; omega
  · rw [if_neg h1, List.getElem?_eq_none (by simp; omega)]; rfl

def RowsLen (k : Nat) (L : List (List AV)) : Prop := ∀ r ∈ L, r.length = k

theorem rowLen_rw {n k : Nat} {L : List (List AV)} (h1 : RowsLen k L) (h2 : n ≤ L.length) : rowLen n (rw L) k = True := by
  simp only [rowLen, eq_iff_iff, iff_true]
  intro i hi
  simp only [rw, List.getElem?_eq_getElem (Nat.lt_of_lt_of_le hi h2), Option.getD_some]
  exact h1 _ (List.getElem_mem _)

theorem rowsLen_nil (k : Nat) : RowsLen k [] = True := by simp [RowsLen]
theorem rowsLen_cons (k : Nat) (r : List AV) (L : List (List AV)) : RowsLen k (r :: L) = (r.length = k ∧ RowsLen k L) := by simp [RowsLen]
theorem rowsLen_append (k : Nat) (A B : List (List AV)) : RowsLen k (A ++ B) = (RowsLen k A ∧ RowsLen k B) := by
  simp only [RowsLen, List.mem_append, eq_iff_iff]
  exact ⟨fun h => ⟨fun r hr => h r (.inl hr), fun r hr => h r (.inr hr)⟩, fun h r hr => hr.elim (h.1 r) (h.2 r)⟩
theorem rowsLen_map {α : Type} {k : Nat} {c : α → List AV} {l : List α} (h : ∀ x, (c x).length = k) : RowsLen k (l.map c) = True := by
  simp only [RowsLen, eq_iff_iff, iff_true]
  intro r hr
  obtain ⟨x, _, rfl⟩ := List.mem_map.1 hr
  exact h x
theorem rowsLen_take {k n : Nat} {L : List (List AV)} (h : RowsLen k L) : RowsLen k (L.take n) = True := by
  simp only [eq_iff_iff, iff_true]; exact fun r hr => h r (List.mem_of_mem_take hr)
theorem rowsLen_drop {k n : Nat} {L : List (List AV)} (h : RowsLen k L) : RowsLen k (L.drop n) = True := by
  simp only [eq_iff_iff, iff_true]; exact fun r hr => h r (List.mem_of_mem_drop hr)
theorem rowsLen_dm {α : Type} {k n : Nat} {c : α → List AV} {l : List α} (h : ∀ x, (c x).length = k) : RowsLen k ((l.map c).drop n) = True := rowsLen_drop (of_eq_true (rowsLen_map h))
theorem rowsLen_tm {α : Type} {k n : Nat} {c : α → List AV} {l : List α} (h : ∀ x, (c x).length = k) : RowsLen k ((l.map c).take n) = True := rowsLen_take (of_eq_true (rowsLen_map h))
theorem rowsLen_replicate {k n : Nat} {r : List AV} (h : r.length = k) : RowsLen k (List.replicate n r) = True := by
  simp only [eq_iff_iff, iff_true]; intro x hx; rw [List.eq_of_mem_replicate hx]; exact h
theorem take_map_len {α β : Type} (l : List α) (f : α → β) : List.take l.length (l.map f) = l.map f := by
  rw [List.take_of_length_le]; simp
theorem drop_map_len {α β γ : Type} (l : List α) (m : List γ) (f : α → β) (h : l.length = m.length) : List.drop m.length (l.map f) = [] := by
  rw [List.drop_eq_nil_of_le]; simp [h]
theorem take_map_le {α β : Type} {l : List α} {f : α → β} {n : Nat} (h : l.length ≤ n) : List.take n (l.map f) = l.map f := by
  rw [List.take_of_length_le]; simpa using h
theorem take_drop_len {α β : Type} (l : List α) (f : α → β) (k : Nat) : List.take (l.length - k) (List.drop k (l.map f)) = List.drop k (l.map f) := by
  rw [List.take_of_length_le]; simp

def chunks (sz : Nat) : Nat → List AV → List (List AV)
  | 0, _ => []
  | n + 1, cs => cs.take sz :: chunks sz n (cs.drop sz)

theorem chunks_get (sz : Nat) : ∀ (n : Nat) (cs : List AV) (i : Nat), (chunks sz n cs)[i]? = if i < n then some ((cs.drop (i * sz)).take sz) else none
  | 0, cs, i => by simp [chunks]
  | n + 1, cs, 0 => by simp [chunks]
  | n + 1, cs, i + 1 => by
    simp only [chunks, List.getElem?_cons_succ, chunks_get sz n, List.drop_drop, Nat.add_lt_add_iff_right]
    have : sz + i * sz = (i + 1) * sz := by rw [Nat.add_mul]; omega
    rw [this]

theorem fz_rows (n sz : Nat) (cs : List AV) : fz n (rowsOf sz cs) = rw (chunks sz n cs) := by
  funext i
  simp only [fz, rowsOf, rw, chunks_get]
  split <;> rfl

/-- A slice of values. -/
def aL {α : Type} (c : α → List AV) (l : List α) : AV := .list l.length (rw (l.map c))

/-- A stored row's cells. -/
theorem rw_map {α : Type} {c : α → List AV} {l : List α} {i : Nat} {x : α} (h : l[i]? = some x) : rw (l.map c) i = c x := by simp [rw, h]

/-- A loop, by rounds that are counted. -/
def loopF {α : Type} (S : α → St) (I : Nat → α → Prop) (Q : Exit → St → Prop) (n : Nat) : Exit → St → Prop
  | .normal, s => ∃ y, I n y ∧ Reloc s (S y)
  | e, s => Q e s

theorem Wp.loopF {P : Program} {X : Ctx} {α : Type} (S : α → St) (I : Nat → α → Prop) {c : Code} {Q : Exit → St → Prop} {s : St} (h0 : ∀ x, ¬ I 0 x) (h : ∀ n x, I (n + 1) x → Wp P X c (loopF S I Q n) (S x)) (n : Nat) (x : α) (hx : I n x) (hr : Reloc s (S x)) : Wp P X (.loop c) Q s := by
  refine Wp.loop (α := Nat × α) (fun p => S p.2) (fun p => p.1) (fun p => I p.1 p.2) (fun p hp => ?_) (n, x) hx hr
  obtain ⟨k, y⟩ := p
  cases k with
  | zero => exact absurd hp (h0 y)
  | succ k =>
    refine (h k y hp).mono fun e s hq => ?_
    cases e with
    | normal => obtain ⟨z, hz, hrz⟩ := hq; exact ⟨(k, z), hz, Nat.lt_succ_self _, hrz⟩
    | _ => exact hq

/-- Code whose ways meet again. -/
def joinQ {α : Type} (S : α → St) (I : α → Prop) (Q : Exit → St → Prop) : Exit → St → Prop
  | .normal, s => ∃ y, I y ∧ Reloc s (S y)
  | e, s => Q e s

theorem Wp.join {P : Program} {X : Ctx} {α : Type} (S : α → St) (I : α → Prop) {a b : Code} {Q : Exit → St → Prop} {s : St} (hb : ∀ x, I x → Wp P X b Q (S x)) (ha : Wp P X a (joinQ S I Q) s) : Wp P X (.seq a b) Q s := by
  refine Wp.seq (ha.mono fun e s hq => ?_)
  cases e with
  | normal => obtain ⟨y, hy, hr⟩ := hq; exact Wp.reloc hr (hb y hy)
  | _ => exact hq

end Go.Av

namespace Go.Av
variable [Drawn]

abbrev Str := ByteArray

instance : LawfulBEq ByteArray where
  rfl := by intro a; rw [bytes_beq]; simp
  eq_of_beq := by intro a b h; rw [bytes_beq] at h; simpa using h

def cI (k : IntKind) (n : Int) : List AV := [.int k n]
def cB (b : Bool) : List AV := [.bool b]
def cS (s : Str) : List AV := [.str s]
def cL {α : Type} (c : α → List AV) (l : List α) : List AV := [aL c l]

/-- An element at an integer. -/
def atI {α : Type} (l : List α) (k : Int) : Option α := if 0 ≤ k then l[k.toNat]? else none

theorem atI_some {α : Type} {l : List α} {k : Int} {x : α} (h : atI l k = some x) : 0 ≤ k ∧ k < (l.length : Int) ∧ l[k.toNat]? = some x := by
  unfold atI at h
  split at h
  · have := get_lt h; exact ⟨by assumption, by omega, h⟩
  · cases h

theorem getElem_of {α : Type} {l : List α} {i : Nat} {x : α} (h : l[i]? = some x) : ∀ hq : i < l.length, l[i] = x := fun hq => by
  rw [List.getElem?_eq_getElem hq] at h; exact Option.some.inj h

theorem obind {α β : Type} {o : Option α} {f : α → Option β} {r : β} (h : o.bind f = some r) : ∃ x, o = some x ∧ f x = some r := by
  cases o with
  | none => cases h
  | some x => exact ⟨x, rfl, h⟩

theorem oguard {α : Type} {p : Prop} [Decidable p] {o : Option α} {r : α} (h : (if p then o else none) = some r) : p ∧ o = some r := by
  split at h
  · exact ⟨by assumption, h⟩
  · cases h

theorem atI_byte {b : ByteArray} {k : Int} {x : UInt8} (h : atI b.data.toList k = some x) : 0 ≤ k ∧ k < (b.size : Int) ∧ b.data.toList[k.toNat]? = some x := by
  have := atI_some h
  have e : b.data.toList.length = b.size := by rw [Array.length_toList]; rfl
  rwa [e] at this

section
variable {α β : Type} [BEq α]
def mGet : List (α × β) → α → Option β
  | [], _ => none
  | p :: r, k => if (k == p.1) = true then some p.2 else mGet r k
def mPut : List (α × β) → α → β → List (α × β)
  | [], k, v => [(k, v)]
  | p :: r, k, v => if (k == p.1) = true then (k, v) :: r else p :: mPut r k v
end

/-- A struct as a map's key. -/
def pS {α : Type} (c : α → List AV) (x : α) : AV := .agg (c x)

def mAV {α β : Type} (c : α → AV) (d : β → List AV) (m : List (α × β)) : List (AV × AV) := m.map fun p => (c p.1, (d p.2).headD .undef)

theorem mAV_emp {α β : Type} (c : α → AV) (d : β → List AV) (m : List (α × β)) : (mAV c d m = []) = (m.isEmpty = true) := by cases m <;> simp [mAV]

/-- A step over a map: the answer that hangs not on which entry comes. -/
noncomputable def Agr {α β : Type} (l : List α) (f : α → List α → Option β) : Option β :=
  match l with
  | [] => none
  | [x] => f x []
  | x :: y :: t => @ite _ (∀ (i : Nat) (z : α), (x :: y :: t)[i]? = some z → f z ((x :: y :: t).eraseIdx i) = f x (y :: t)) (Classical.propDecidable _) (f x (y :: t)) none

theorem Agr.at {α β : Type} {l : List α} {f : α → List α → Option β} {r : β} (h : Agr l f = some r) {i : Nat} {z : α} (hz : l[i]? = some z) : f z (l.eraseIdx i) = some r := by
  unfold Agr at h
  split at h
  · cases h
  · cases i with
    | zero => simp at hz; subst hz; simpa using h
    | succ i => simp at hz
  · split at h
    · rename_i hc
      rw [hc i z hz]; exact h
    · cases h

theorem Agr.of {α β : Type} {l : List α} {f : α → List α → Option β} {r : β} (hne : l ≠ []) (h : ∀ (i : Nat) (z : α), l[i]? = some z → f z (l.eraseIdx i) = some r) : Agr l f = some r := by
  unfold Agr
  split
  · exact absurd rfl hne
  · have := h 0 _ rfl; simpa using this
  · rename_i x y t
    have h0 : f x (y :: t) = some r := h 0 x rfl
    rw [if_pos fun i z hz => by rw [h i z hz, h0]]
    exact h0

theorem mAV_get {α β : Type} (c : α → AV) (d : β → List AV) (m : List (α × β)) {i : Nat} {e : AV × AV} (h : (mAV c d m)[i]? = some e) : ∃ p, m[i]? = some p ∧ e = (c p.1, (d p.2).headD .undef) := by
  rw [mAV, List.getElem?_map, Option.map_eq_some_iff] at h
  obtain ⟨p, hp, rfl⟩ := h
  exact ⟨p, hp, rfl⟩

theorem mAV_eraseIdx {α β : Type} (c : α → AV) (d : β → List AV) : ∀ (m : List (α × β)) (i : Nat), (mAV c d m).eraseIdx i = mAV c d (m.eraseIdx i)
  | [], i => by simp [mAV]
  | p :: m, 0 => rfl
  | p :: m, i + 1 => by
    have := mAV_eraseIdx c d m i
    simp only [mAV, List.map_cons, List.eraseIdx_cons_succ] at this ⊢
    rw [this]

theorem mAV_length {α β : Type} (c : α → AV) (d : β → List AV) (m : List (α × β)) : (mAV c d m).length = m.length := by simp [mAV]
theorem mAV_nil {α β : Type} (c : α → AV) (d : β → List AV) : mAV c d [] = [] := rfl

section
variable {α β : Type} [BEq α]
theorem findA_gen (c : α → AV) (d : β → List AV) (hs : ∀ a b, sameKey (c a) (c b) = some (a == b)) (k : α) : ∀ m : List (α × β), findA (c k) (mAV c d m) = some ((mGet m k).map fun v => (d v).headD .undef)
  | [] => rfl
  | p :: r => by
    have ih := findA_gen c d hs k r
    simp only [mAV, List.map_cons, findA, hs, mGet]
    cases h : (k == p.1) with
    | true => simp
    | false => simpa [mAV] using ih

theorem putA_gen (c : α → AV) (d : β → List AV) (hs : ∀ a b, sameKey (c a) (c b) = some (a == b)) (k : α) (v : β) : ∀ m : List (α × β), putA (c k) ((d v).headD .undef) (mAV c d m) = mAV c d (mPut m k v)
  | [] => rfl
  | p :: r => by
    have ih := putA_gen c d hs k v r
    simp only [mAV, List.map_cons, putA, hs, mPut]
    cases h : (k == p.1) with
    | true => simp
    | false => simpa [mAV] using ih
end

theorem same_int (kk : IntKind) (a b : Int) : sameKey (.int kk a) (.int kk b) = some (a == b) := by simp [sameKey]
theorem same_str (a b : Str) : sameKey (.str a) (.str b) = some (a == b) := rfl

theorem findA_int {β : Type} (d : β → List AV) (kk : IntKind) (k : Int) (m : List (Int × β)) : findA (.int kk k) (mAV (AV.int kk) d m) = some ((mGet m k).map fun v => (d v).headD .undef) := findA_gen (AV.int kk) d (same_int kk) k m
theorem findA_str {β : Type} (d : β → List AV) (k : Str) (m : List (Str × β)) : findA (.str k) (mAV AV.str d m) = some ((mGet m k).map fun v => (d v).headD .undef) := findA_gen AV.str d same_str k m
theorem putA_strB (k : Str) (v : Bool) (m : List (Str × Bool)) : putA (.str k) (.bool v) (mAV AV.str cB m) = mAV AV.str cB (mPut m k v) := putA_gen AV.str cB same_str k v m
theorem putA_strI (kk : IntKind) (k : Str) (v : Int) (m : List (Str × Int)) : putA (.str k) (.int kk v) (mAV AV.str (cI kk) m) = mAV AV.str (cI kk) (mPut m k v) := putA_gen AV.str (cI kk) same_str k v m
theorem putA_intB (kk : IntKind) (k : Int) (v : Bool) (m : List (Int × Bool)) : putA (.int kk k) (.bool v) (mAV (AV.int kk) cB m) = mAV (AV.int kk) cB (mPut m k v) := putA_gen (AV.int kk) cB (same_int kk) k v m
theorem putA_intI (kk kv : IntKind) (k : Int) (v : Int) (m : List (Int × Int)) : putA (.int kk k) (.int kv v) (mAV (AV.int kk) (cI kv) m) = mAV (AV.int kk) (cI kv) (mPut m k v) := putA_gen (AV.int kk) (cI kv) (same_int kk) k v m

theorem same_bool (a b : Bool) : sameKey (.bool a) (.bool b) = some (a == b) := rfl
theorem findA_bool {β : Type} (d : β → List AV) (k : Bool) (m : List (Bool × β)) : findA (.bool k) (mAV AV.bool d m) = some ((mGet m k).map fun v => (d v).headD .undef) := findA_gen AV.bool d same_bool k m
theorem putA_boolI (kv : IntKind) (k : Bool) (v : Int) (m : List (Bool × Int)) : putA (.bool k) (.int kv v) (mAV AV.bool (cI kv) m) = mAV AV.bool (cI kv) (mPut m k v) := putA_gen AV.bool (cI kv) same_bool k v m
theorem putA_boolB (k : Bool) (v : Bool) (m : List (Bool × Bool)) : putA (.bool k) (.bool v) (mAV AV.bool cB m) = mAV AV.bool cB (mPut m k v) := putA_gen AV.bool cB same_bool k v m
theorem putA_strS (k : Str) (v : Str) (m : List (Str × Str)) : putA (.str k) (.str v) (mAV AV.str cS m) = mAV AV.str cS (mPut m k v) := putA_gen AV.str cS same_str k v m
theorem putA_intS (kk : IntKind) (k : Int) (v : Str) (m : List (Int × Str)) : putA (.int kk k) (.str v) (mAV (AV.int kk) cS m) = mAV (AV.int kk) cS (mPut m k v) := putA_gen (AV.int kk) cS (same_int kk) k v m

/-- The string of bytes. -/
def bytesS (l : List Int) : Str := ⟨(l.map fun v => UInt8.ofNat v.toNat).toArray⟩
theorem byteRow_rw (l : List Int) : byteRow l.length (rw (l.map (cI .u8))) = True := by
  refine eq_true fun i hi => ?_
  exact ⟨l[i], by simp [rw, hi, cI]⟩
theorem bytesOf_rw (l : List Int) : bytesOf l.length (rw (l.map (cI .u8))) = bytesS l := by
  unfold bytesOf bytesS
  congr 2
  refine List.ext_getElem (by simp) fun i h1 h2 => ?_
  have hi : i < l.length := by simpa using h1
  simp [rw, hi, cI]
theorem byteRow_rwN {n : Nat} {l : List Int} (h : l.length = n) : byteRow n (rw (l.map (cI .u8))) = True := by subst h; exact byteRow_rw l
theorem bytesOf_rwN {n : Nat} {l : List Int} (h : l.length = n) : bytesOf n (rw (l.map (cI .u8))) = bytesS l := by subst h; exact bytesOf_rw l

theorem ObjLe.map2 {hp : List AObj} {L : List (Option Nat)} {base i id : Nat} {es es' : List (AV × AV)} (h1 : L[i]? = some (some id)) (h2 : hp[id]? = some (.map es')) (h : es' = es) : ObjLe hp L base i (.map es) := by subst h; exact .map' h1 h2

theorem ObjLe.slot' {hp : List AObj} {L : List (Option Nat)} {base i : Nat} (h : L[i]? = some none) : ObjLe hp L base i .slot := h

/-! ### arrays as data -/
def cA1 {α : Type} (c : α → List AV) (x : α) : List AV := c x
def cA2 {α : Type} (c : α → List AV) (x : α × α) : List AV := c x.1 ++ c x.2
def cA3 {α : Type} (c : α → List AV) (x : α × α × α) : List AV := c x.1 ++ (c x.2.1 ++ c x.2.2)
def cA4 {α : Type} (c : α → List AV) (x : α × α × α × α) : List AV := c x.1 ++ (c x.2.1 ++ (c x.2.2.1 ++ c x.2.2.2))

theorem next_mk {α : Type} {S : α → St} {I : α → Prop} {s : St} (y : α) (h : I y) (hr : Reloc s (S y)) : ∃ y, I y ∧ Reloc s (S y) := ⟨y, h, hr⟩

section
variable {P : Program} {X : Ctx} {T : TT} {own : Nat → Bool}

/-- A call within a region: the arguments restated. -/
theorem regv_call2 {ops : Array Oper} {o : Oper} {os : List Oper} {K : St → Prop} {s s' : St} {c : Call} {f : Operand} {g : FuncId} {ags : List AV} {p1 : List AV} {p : List AV × Prop × Bool} {r : AV} {H' : List AObj}
    (hc : Con P s.gl g p1 r H') (ho : o.op = .call c) (hcal : c.callee = .value f) (hg : guardA ops s o = some true) (hcl : calleeA s f c.args.toList = some (g, ags)) (hp : toArgs s.hp ags = some p)
    (he : p.1 = p1 ∨ All2 (AvLe [] [] 0) p.1 p1) (hpc : p.2.1)
    (hl : p.2.2 = true → H' = [] ∧ isScalar r = true) (hs : ({ s with hp := s.hp ++ H'.map (objShift s.hp.length), cond := True } : St).setd o.dst (shift s.hp.length r) = some s') (hk : regv P T own ops os K s') : regv P T own ops (o :: os) K s := by
  obtain ⟨p2, pc, pl⟩ := p
  have hc' : Con P s.gl g p2 r H' := by
    rcases he with he | he
    · simp only at he; subst he; exact hc
    · exact hc.args he
  exact regv_call hc' ho hcal hg hcl hp hpc hl hs hk

end
end Go.Av
namespace Go.Av
variable [Drawn]

/-- A test for nil: a list that is empty may be nil or not; both ways must agree. -/
def isnilM {α β : Type} [DecidableEq β] (l : List α) (A B : Option β) : Option β := if l.length = 0 then (if A = B then B else none) else B

theorem isnil_f {α β : Type} [DecidableEq β] {l : List α} {A B : Option β} {r : β} (h : isnilM l A B = some r) : B = some r := by
  unfold isnilM at h
  split at h
  · split at h
    · exact h
    · cases h
  · exact h

theorem isnil_t {α β : Type} [DecidableEq β] {l : List α} {A B : Option β} {r : β} (hl : l.length = 0) (h : isnilM l A B = some r) : A = some r := by
  unfold isnilM at h
  rw [if_pos hl] at h
  split at h
  · rename_i e; rw [e]; exact h
  · cases h

section
variable {P : Program} {X : Ctx} {T : TT} {own : Nat → Bool} {K : St → Prop} {s : St} {ops : Array Oper} {B : List Nat} {R : Nat → List Nat}

/-- A call of a plain function that hands out no object: the arguments restated. -/
theorem regI_call2 {i : Nat} {is : List Nat} {s1 : St} {c : Call} {g : FuncId} {p1 : List AV} {p : List AV × Prop × Bool} {o : Oper} {r : AV} (hcon : Con P s.gl g p1 r []) (ho : ops[i]? = some o) (hoc : o.op = .call c) (hcal : c.callee = .value (.func g))
    (hg : guardA ops s o = some true) (hp : toArgs s.hp (c.args.toList.map s.ev) = some p) (he : p.1 = p1 ∨ All2 (AvLe [] [] 0) p.1 p1) (hpc : p.2.1) (hsh : ∀ n, shift n r = r) (hl : p.2.2 = true → isScalar r = true) (hw : withinB (R i) s o = true)
    (hs : s.setd o.dst r = some s1) (hk : regI P T own ops B R K is s1) (hown : own (o.dst.getD 0) = false := by rfl) : regI P T own ops B R K (i :: is) s := by
  obtain ⟨p2, pc, pl⟩ := p
  have hc' : Con P s.gl g p2 r [] := by
    rcases he with he | he
    · simp only at he; subst he; exact hcon
    · exact hcon.args he
  exact regI_call hc' ho hoc hcal hg hp hpc hsh hl hw hs hk hown

theorem regI_ecall2 {i : Nat} {is : List Nat} {s1 : St} {c : Call} {g : FuncId} {p1 : List AV} {p : List AV × Prop × Bool} {o : Oper} {r : AV} {H' : List AObj} (hcon : Con P s.gl g p1 r H') (ho : ops[i]? = some o) (hoc : o.op = .call c) (hcal : c.callee = .value (.func g))
    (hg : guardA ops s o = some true) (hp : toArgs s.hp (c.args.toList.map s.ev) = some p) (he : p.1 = p1 ∨ All2 (AvLe [] [] 0) p.1 p1) (hpc : p.2.1) (hl : p.2.2 = true → H' = [] ∧ isScalar r = true) (hR : ∀ k, ∀ id ∈ R k, id < s.hp.length)
    (hs : ({ s with hp := s.hp ++ H'.map (objShift s.hp.length) } : St).setd o.dst (shift s.hp.length r) = some s1) (hk : regI P T own ops B R K is s1) (hown : (own (o.dst.getD 0) && !own (o.dst.getD 0 + 1000)) = true := by rfl)
    (hS : slotsB B s.hp = true := by rfl) (hBa : ∀ v ∈ c.args.toList.map s.ev, ∀ id ∈ refsD v, id ∉ B := by simp) : regI P T own ops B R K (i :: is) s := by
  obtain ⟨p2, pc, pl⟩ := p
  have hc' : Con P s.gl g p2 r H' := by
    rcases he with he | he
    · simp only at he; subst he; exact hcon
    · exact hcon.args he
  exact regI_ecall hc' ho hoc hcal hg hp hpc hl hR hs hk hown hS hBa
end

/-- A function's end: owned slices among the results. -/
theorem endQ_ret2 {T : TT} {rs : List ResultVar} {s : St} {v r : AV} {hp' : List AObj} (L : List (Option Nat)) (hv : resA T s rs = some v) (hlen : hp'.length = L.length) (hinj : L.Pairwise fun a b => a = none ∨ a ≠ b) (hobj : ObjsLe s.hp L 0 0 hp') (hle : AvLe s.hp L 0 v r) :
    endQ T rs 0 (fun r' H'' => r' = r ∧ H'' = hp') .ret s := endQ_ret L hv (relocH_of hlen hinj hobj) hle
end Go.Av

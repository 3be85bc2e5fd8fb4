/- The Av framework: steps in a region whose order is drawn. No law is proved here. -/
import Derived.Test.YtgbgmijighbfbaaGv20
set_option linter.unusedSimpArgs false
set_option linter.unusedVariables false
set_option linter.unusedSectionVars false
namespace Go.Av

def refsD : AV → List Nat
  | .agg cs => cs.flatMap refs
  | .clos _ a c => (a ++ c).flatMap refs
  | v => refs v

/-- Whether an operation looks into the heap. -/
def readsHp (o : Oper) : Bool := match o.op with
  | .load _ _ | .indexAddr _ _ _ | .slice _ _ _ _ _ | .lookup _ _ _ _ | .call _ => true
  | _ => false

def Within (R : List Nat) (s : St) (o : Oper) : Prop := readsHp o = true → ∀ x ∈ o.op.operands, ∀ id ∈ refsD (s.ev x), id ∈ R

def withinB (R : List Nat) (s : St) (o : Oper) : Bool := !readsHp o || o.op.operands.toList.all fun x => (refsD (s.ev x)).all fun id => R.any (Nat.beq id)

theorem withinB_ok {R : List Nat} {s : St} {o : Oper} (h : withinB R s o = true) : Within R s o := by
  intro hrd x hx id hid
  rw [withinB, hrd, Bool.not_true, Bool.false_or] at h
  have h1 := List.all_eq_true.1 h x (by simpa using hx)
  have h2 := List.all_eq_true.1 h1 id hid
  obtain ⟨k, hk, e⟩ := List.any_eq_true.1 h2
  have := Nat.eq_of_beq_eq_true e
  subst this; exact hk

section
variable {P : Program} {T : TT} {own : Nat → Bool} {ops : Array Oper} {B R : List Nat} {K : St → Prop} {s s' : St} {o : Oper}

theorem ev_agree (hl : ∀ t ∈ o.looksAt ops, look s'.ch t = look s.ch t) {x : Operand} (hx : x ∈ o.op.operands) : s'.ev x = s.ev x := by
  cases x with
  | tmp t => exact hl t (List.mem_append_left _ (List.mem_filterMap.2 ⟨.tmp t, by simpa using hx, rfl⟩))
  | _ => rfl

theorem guard_agree (hl : ∀ t ∈ o.looksAt ops, look s'.ch t = look s.ch t) : guardA ops s' o = guardA ops s o := by
  unfold guardA
  cases hg : o.guard with
  | none => rfl
  | some gw =>
    obtain ⟨g, want⟩ := gw
    simp only
    cases hd : (ops[g]?).bind (·.dst) with
    | none => rfl
    | some d =>
      simp only
      rw [hl d (List.mem_append_right _ (by rw [hg]; simp [hd]))]

theorem same_of (hR : ∀ id ∈ R, s'.hp[id]? = s.hp[id]?) (hrd : readsHp o = true) (hw : Within R s o) {x : Operand} (hx : x ∈ o.op.operands) : SameAt s s' (s.ev x) := fun id hid =>
  hR id (hw hrd x hx id (by
    cases hv : s.ev x <;> rw [hv] at hid <;> first | exact hid | (simp [refs] at hid)))

def noSl (s : St) (o : Oper) : Prop := match o.op with
  | .call c => match c.callee, c.args.toList with
    | .builtin .append, [x, _] => ∀ id b n, s.ev x ≠ .sl id b n
    | _, _ => True
  | _ => True

theorem pairs_agree {ps : Array (Nat × Operand)} (h : ∀ x ∈ ps.toList.map (·.2), s'.ev x = s.ev x) : (ps.toList.map fun p => (p.1, s'.ev p.2)) = ps.toList.map fun p => (p.1, s.ev p.2) :=
  List.map_congr_left fun p hp => by rw [h p.2 (List.mem_map.2 ⟨p, hp, rfl⟩)]

theorem opf_cong (hk : valKind own o = true) (hp : isPure o = true) (hsl : noSl s o) (hw : Within R s o) (ha : Agree ops R o s s') {v : AV} (h : Yv s o.dst v (opf T own o s)) : Yv s' o.dst v (opf T own o s') := by
  obtain ⟨hn, hc, hl, hR⟩ := ha
  have ev : ∀ x ∈ o.op.operands, s'.ev x = s.ev x := fun x hx => ev_agree hl hx
  have sm : readsHp o = true → ∀ x ∈ o.op.operands, SameAt s s' (s.ev x) := fun hrd x hx => same_of hR hrd hw hx
  clear hl hR hw
  obtain ⟨dst, op, type, pos, after, guard⟩ := o
  simp only [valKind, isPure, noSl] at hk hp hsl
  cases op with
  | move x => simp only [opf] at h ⊢; rw [ev x (by simp [Op.operands])]; exact h.setd hn hc
  | assign x => simp only [opf] at h ⊢; rw [ev x (by simp [Op.operands])]; exact h.setd hn hc
  | pick c a b =>
    simp only [opf] at h ⊢
    rw [ev c (by simp [Op.operands]), ev a (by simp [Op.operands]), ev b (by simp [Op.operands])]
    split at h
    · exact h.setd hn hc
    · exact h.no.elim
  | load t x => simp only [opf] at h ⊢; rw [ev x (by simp [Op.operands])]; exact cong_load h hn hc (sm rfl x (by simp [Op.operands]))
  | fieldAddr t x f => simp only [opf] at h ⊢; rw [ev x (by simp [Op.operands])]; exact cong_fieldAddr h hn hc
  | field t x f => simp only [opf] at h ⊢; rw [ev x (by simp [Op.operands])]; exact cong_field h hn hc
  | indexAddr t x i => simp only [opf] at h ⊢; rw [ev x (by simp [Op.operands]), ev i (by simp [Op.operands])]; exact cong_indexAddr h hn hc (sm rfl x (by simp [Op.operands]))
  | index t x i => simp only [opf] at h ⊢; rw [ev x (by simp [Op.operands]), ev i (by simp [Op.operands])]; exact cong_index h hn hc
  | build t ps => simp only [opf] at h ⊢; rw [pairs_agree (fun x hx => ev x (by simpa [Op.operands] using hx))]; exact cong_build h hn hc
  | buildSlice t n ps =>
    simp only [opf] at h ⊢
    rw [pairs_agree (fun x hx => ev x (by simpa [Op.operands] using hx))]
    exact cong_buildSlice (by simpa using hk) h hn hc
  | slice t x lo hi mx =>
    cases mx with
    | some m => simp at hk
    | none =>
      simp only [opf] at h ⊢
      have e1 : lo.map s'.ev = lo.map s.ev := by
        cases lo with
        | none => rfl
        | some l => simp only [Option.map_some]; rw [ev l (by simp [Op.operands])]
      have e2 : hi.map s'.ev = hi.map s.ev := by
        cases hi with
        | none => rfl
        | some l => simp only [Option.map_some]; rw [ev l (by simp [Op.operands])]
      rw [ev x (by simp [Op.operands]), e1, e2]
      exact cong_slice h hn hc (sm rfl x (by simp [Op.operands]))
  | binOp op t x y u => simp only [opf] at h ⊢; rw [ev x (by simp [Op.operands]), ev y (by simp [Op.operands])]; exact cong_bin h hn hc
  | unOp op t x => simp only [opf] at h ⊢; rw [ev x (by simp [Op.operands])]; exact cong_un h hn hc
  | convert a b x => simp only [opf] at h ⊢; rw [ev x (by simp [Op.operands])]; exact cong_convert h hn hc
  | extract x i => simp only [opf] at h ⊢; rw [ev x (by simp [Op.operands])]; exact cong_extract h hn hc
  | makeInterface t x => simp only [opf] at h ⊢; rw [ev x (by simp [Op.operands])]; exact cong_iface h hn hc
  | lookup t x k ok => simp only [opf] at h ⊢; rw [ev x (by simp [Op.operands]), ev k (by simp [Op.operands])]; exact cong_lookup h hn hc (sm rfl x (by simp [Op.operands]))
  | call c =>
    simp only [opf] at h ⊢
    simp only at hk hp hsl
    split at h
    · rename_i x t h1 h2 h3
      have hx : x ∈ (Op.call c).operands := by
        have : c.args = #[x] := by rw [← Array.toArray_toList (xs := c.args), h2]
        simp [Op.operands, Call.operands, this]
      try simp only [h1, h2, h3]
      rw [ev x hx]; exact cong_len h hn hc (sm rfl x hx)
    · rename_i x y t t' h1 h2 h3
      have ha : c.args = #[x, y] := by rw [← Array.toArray_toList (xs := c.args), h2]
      have hx : x ∈ (Op.call c).operands := by simp [Op.operands, Call.operands, ha]
      have hy : y ∈ (Op.call c).operands := by simp [Op.operands, Call.operands, ha]
      simp only [h1, h2, h3] at hk hsl ⊢
      rw [ev x hx, ev y hy]; exact cong_append (by simpa using hk) hsl h hn hc (sm rfl y hy)
    · rename_i x y t t' h1 h2 h3
      simp only [h1] at hk; cases hk
    · exact h.no.elim
  | _ => simp at hk

theorem Yv.yh {d : Option Nat} {v : AV} {o : Option St} (h : Yv s d v o) : Yh s d v s.hp o := by
  obtain ⟨r, h1, h2, h3⟩ := h
  have hh : r.hp = s.hp := by
    have := (setd_some h3).1
    exact this
  refine ⟨r, h1, h2, hh, ?_⟩
  rw [h3]; cases r; simp only at hh; subst hh; rfl

/-- A step that yields a value. -/
theorem regI_val {i : Nat} {is : List Nat} {r : St} (v : AV) (ho : ops[i]? = some o) (hk : valKind own o = true) (hp : isPure o = true) (hg : guardA ops s o = some true) (hf : opf T own o s = some r) (hc : r.cond)
    (hv : s.setd o.dst v = some { r with cond := s.cond }) (hsl : noSl s o) (hw : withinB R s o = true) (hk2 : regI P T own ops B R K is { r with cond := s.cond }) : regI P T own ops B R K (i :: is) s := by
  refine ⟨o, ho, .inl ⟨hk, v, _, fun s' ha => ⟨true, by rw [guard_agree ha.2.2.1]; exact hg, ?_⟩, hv, hk2⟩⟩
  rw [if_pos rfl]
  have hy := (opf_cong hk hp hsl (withinB_ok hw) ha (v := v) ⟨r, hf, hc, hv⟩).yh
  unfold Yo
  unfold isPure at hp
  split
  · rename_i c hoc
    rw [hoc] at hp
    simp only at hp
    split
    · rename_i f hf; rw [hf] at hp; cases hp
    · exact hy
  · exact hy

theorem regI_skip {i : Nat} {is : List Nat} {s1 : St} (ho : ops[i]? = some o) (hk : valKind own o = true) (hg : guardA ops s o = some false) (hv : s.setd o.dst (.tup []) = some s1)
    (hk2 : regI P T own ops B R K is s1) : regI P T own ops B R K (i :: is) s :=
  ⟨o, ho,   .inl ⟨hk, .tup [], s1, fun s' ha => ⟨false, by rw [guard_agree ha.2.2.1]; exact hg, by rw [if_neg (by simp)]; exact ⟨rfl, rfl⟩⟩, hv, hk2⟩⟩

/-- A run of steps that yield values. -/
def runI (T : TT) (own : Nat → Bool) (ops : Array Oper) (R : List Nat) : List Nat → St → Option (St × Prop)
  | [], s => some (s, True)
  | i :: is, s => match ops[i]? with
    | none => none
    | some o => bif valKind own o && isPure o then match guardA ops s o with
        | some true => bif withinB R s o then (opf T own o s).bind fun s1 =>
            (runI T own ops R is { s1 with cond := s.cond }).map fun r => (r.1, s1.cond ∧ noSl s o ∧ (s.setd o.dst (match o.dst with | some d => look s1.ch d | none => .undef) = some { s1 with cond := s.cond }) ∧ r.2) else none
        | some false => (s.setd o.dst (.tup [])).bind (runI T own ops R is)
        | none => none
      else none

theorem regI_run : ∀ {is is' : List Nat} {s : St} {r : St × Prop}, runI T own ops R is s = some r → r.2 → regI P T own ops B R K is' r.1 → regI P T own ops B R K (is ++ is') s
  | [], is', s, r, h, hc, hk => by simp only [runI, Option.some.injEq] at h; subst h; exact hk
  | i :: is, is', s, r, h, hc, hk => by
    simp only [runI] at h
    split at h
    · cases h
    · rename_i o ho
      cases hb : (valKind own o && isPure o) with
      | false => rw [hb] at h; cases h
      | true =>
        rw [hb, cond_true] at h
        rw [Bool.and_eq_true] at hb
        split at h
        · rename_i hg
          cases hw : withinB R s o with
          | false => rw [hw] at h; cases h
          | true =>
            rw [hw, cond_true] at h
            simp only [Option.bind_eq_some_iff, Option.map_eq_some_iff] at h
            obtain ⟨s1, hf, r1, hr, rfl⟩ := h
            obtain ⟨c1, c2, c3, c4⟩ := hc
            exact regI_val _ ho hb.1 hb.2 hg hf c1 c3 c2 hw (regI_run hr c4 hk)
        · rename_i hg
          simp only [Option.bind_eq_some_iff] at h
          obtain ⟨s1, hf, hr⟩ := h
          exact regI_skip ho hb.1 hg hf (regI_run hr hc hk)
        · cases h

/-- A run of steps up to the next that is none. -/
theorem regI_upto (n : Nat) {is : List Nat} {r : St × Prop} (h : runI T own ops R (is.take n) s = some r) (hc : r.2) (hk : regI P T own ops B R K (is.drop n) r.1) : regI P T own ops B R K is s := by
  have := regI_run (P := P) h hc hk
  rwa [List.take_append_drop] at this

theorem toArgs_same {hp hp' : List AObj} : ∀ (vs : List AV), (∀ v ∈ vs, ∀ id ∈ refsD v, hp'[id]? = hp[id]?) → toArgs hp' vs = toArgs hp vs := by
  have h0 : ∀ v, (∀ id ∈ refs v, hp'[id]? = hp[id]?) → toArg0 hp' v = toArg0 hp v := by
    intro v hv
    cases v <;> first | rfl | (simp only [toArg0]; rw [hv _ (by simp [refs])])
  have h1 : ∀ vs : List AV, (∀ v ∈ vs, ∀ id ∈ refs v, hp'[id]? = hp[id]?) → toArgs0 hp' vs = toArgs0 hp vs := by
    intro vs
    induction vs with
    | nil => intro _; rfl
    | cons v vs ih =>
      intro hv
      simp only [toArgs0]
      rw [h0 v (hv v (by simp)), ih (fun u hu => hv u (by simp [hu]))]
  have h2 : ∀ v, (∀ id ∈ refsD v, hp'[id]? = hp[id]?) → toArg hp' v = toArg hp v := by
    intro v hv
    cases v with
    | agg cs =>
      simp only [toArg]
      rw [h1 cs (fun u hu id hid => hv id (by simp only [refsD, List.mem_flatMap]; exact ⟨u, hu, hid⟩))]
    | clos f a c => rfl
    | _ => exact h0 _ (by simpa only [refsD] using hv)
  intro vs
  induction vs with
  | nil => intro _; rfl
  | cons v vs ih =>
    intro hv
    simp only [toArgs]
    rw [h2 v (hv v (by simp)), ih (fun u hu => hv u (by simp [hu]))]

/-- A call of a plain function that hands out no object. -/
theorem regI_call {i : Nat} {is : List Nat} {s1 : St} {c : Call} {g : FuncId} {p1 : List AV} {pc : Prop} {pl : Bool} {r : AV} (hcon : Con P g p1 r []) (ho : ops[i]? = some o) (hoc : o.op = .call c) (hcal : c.callee = .value (.func g))
    (hg : guardA ops s o = some true) (hp : toArgs s.hp (c.args.toList.map s.ev) = some (p1, pc, pl)) (hpc : pc) (hsh : ∀ n, shift n r = r) (hl : pl = true → isScalar r = true) (hw : withinB R s o = true)
    (hs : s.setd o.dst r = some s1) (hk : regI P T own ops B R K is s1) (hown : own (o.dst.getD 0) = false := by rfl) : regI P T own ops B R K (i :: is) s := by
  have hv : valKind own o = true := by simp only [valKind, hoc, hcal, hown]; rfl
  refine ⟨o, ho, .inl ⟨hv, r, s1, fun s' ha => ⟨true, by rw [guard_agree ha.2.2.1]; exact hg, ?_⟩, hs, hk⟩⟩
  rw [if_pos rfl]
  have hop : ∀ x ∈ c.args.toList, x ∈ o.op.operands := fun x hx => by rw [hoc]; simp [Op.operands, Call.operands]; exact .inr (by simpa using hx)
  have hev : c.args.toList.map s'.ev = c.args.toList.map s.ev := List.map_congr_left fun x hx => ev_agree ha.2.2.1 (hop x hx)
  have hto : toArgs s'.hp (c.args.toList.map s'.ev) = some (p1, pc, pl) := by
    rw [hev, ← hp]
    refine toArgs_same _ fun v hv id hid => ?_
    obtain ⟨x, hx, rfl⟩ := List.mem_map.1 hv
    exact ha.2.2.2 id (withinB_ok hw (by rw [readsHp, hoc]) x (hop x hx) id hid)
  unfold Yo
  rw [hoc]
  simp only
  rw [hcal]
  exact ⟨(g, c.args.toList.map s'.ev), (p1, pc, pl), r, [], by simp [calleeA, St.ev], hcon.fn, hto, hpc, (hsh _).symm, by simp, fun h => ⟨rfl, hl h⟩, hcon.calls⟩

/-- Slots, empty or filled. -/
def slotsB (B : List Nat) (hp : List AObj) : Bool := B.all fun k => match hp[k]? with
  | some .slot | some (.var _) => true
  | _ => false
theorem slotsB_at {B : List Nat} {hp : List AObj} (h : slotsB B hp = true) {k : Nat} (hk : k ∈ B) : hp[k]? = some .slot ∨ ∃ cs, hp[k]? = some (.var cs) := by
  have := List.all_eq_true.1 h k hk
  split at this
  · rename_i e; exact .inl e
  · rename_i cs e; exact .inr ⟨cs, e⟩
  · cases this
theorem slotsB_lt {B : List Nat} {hp : List AObj} (h : slotsB B hp = true) {k : Nat} (hk : k ∈ B) : k < hp.length := by
  rcases slotsB_at h hk with e | ⟨_, e⟩ <;> exact (List.getElem?_eq_some_iff.1 e).1
theorem fok_append {B : List Nat} {n : Nat} (hB : ∀ k ∈ B, k < n) (U : List AObj) : FOk B n fun hp => hp ++ U := fun hp k hk hn => by
  have := hB k hk
  exact ⟨List.getElem?_append_left (by omega), fun o => by simp only; rw [List.set_append_left k o (by omega)]⟩

/-- A call of a plain function that hands out objects. -/
theorem regI_ecall {i : Nat} {is : List Nat} {s1 : St} {c : Call} {g : FuncId} {p1 : List AV} {pc : Prop} {pl : Bool} {r : AV} {H' : List AObj} (hcon : Con P g p1 r H') (ho : ops[i]? = some o) (hoc : o.op = .call c) (hcal : c.callee = .value (.func g))
    (hg : guardA ops s o = some true) (hp : toArgs s.hp (c.args.toList.map s.ev) = some (p1, pc, pl)) (hpc : pc) (hl : pl = true → H' = [] ∧ isScalar r = true) (hR : ∀ id ∈ R, id < s.hp.length)
    (hs : ({ s with hp := s.hp ++ H'.map (objShift s.hp.length) } : St).setd o.dst (shift s.hp.length r) = some s1) (hk : regI P T own ops B R K is s1) (hown : own (o.dst.getD 0) = true := by rfl)
    (hS : slotsB B s.hp = true := by rfl) (hBa : ∀ v ∈ c.args.toList.map s.ev, ∀ id ∈ refsD v, id ∉ B := by simp) : regI P T own ops B R K (i :: is) s := by
  have hv : valKind own o = false := by simp only [valKind, hoc, hcal, hown]; rfl
  have hv2 : effKind own o = true := by simp only [effKind, hoc, hcal, hown]
  refine ⟨o, ho, .inr (.inl ⟨hv, hv2, shift s.hp.length r, fun hp => hp ++ H'.map (objShift s.hp.length), s1, fun s' ha => ⟨true, by rw [guard_agree ha.2.2.1]; exact hg, ?_⟩, fok_append (fun k hk => slotsB_lt hS hk) _, fun id hid => List.getElem?_append_left (hR id hid), hs, hk⟩)⟩
  rw [if_pos rfl]
  have hop : ∀ x ∈ c.args.toList, x ∈ o.op.operands := fun x hx => by rw [hoc]; simp [Op.operands, Call.operands]; exact .inr (by simpa using hx)
  have hev : c.args.toList.map s'.ev = c.args.toList.map s.ev := List.map_congr_left fun x hx => ev_agree ha.2.2.1 (hop x hx)
  have hh : s'.hp.length = s.hp.length := ha.2.2.2.1.1
  have hto : toArgs s'.hp (c.args.toList.map s'.ev) = some (p1, pc, pl) := by
    rw [hev, ← hp]
    exact toArgs_same _ fun v hv id hid => ha.2.2.2.1.2 id (hBa v hv id hid)
  unfold Yo
  rw [hoc]
  simp only
  rw [hcal]
  exact ⟨(g, c.args.toList.map s'.ev), (p1, pc, pl), r, H', by simp [calleeA, St.ev], hcon.fn, hto, hpc, by rw [hh], by rw [hh], hl, hcon.calls⟩

/-- A step at a place of its own. -/
theorem regI_bar (hT : TTOk P T) {i : Nat} {is : List Nat} {r : St} (ho : ops[i]? = some o) (hk : valKind own o = false) (he : effKind own o = false) (hgd : o.guard = none) (hf : opf T own o s = some r) (hc : r.cond)
    (hk2 : regI P T own ops B R K is { r with cond := True }) (hsl : slotKind own o = false := by rfl) : regI P T own ops B R K (i :: is) s := by
  refine ⟨o, ho, .inr (.inr (.inl ⟨hk, he, hsl, hgd, fun E0 H0 w0 E a w N Q hm hn => ?_⟩))⟩
  obtain ⟨_, x, w', E', hrun, hr⟩ := opf_sound hT hm hf hc
  show o.upon P a N Q ((execOp a.eval o).run P w)
  rw [hrun]
  cases x with
  | value v => exact hn _ E' v w' ⟨trivial, hk2⟩ (hr.cond True)
  | skip => exact hn _ E' _ w' ⟨trivial, hk2⟩ (hr.cond True)
  | _ => exact hr.elim

/-- A variable in its slot. -/
theorem regI_slot {i : Nat} {is : List Nat} {t : TypeId} {d : Nat} {ts : TS} (k : Nat) (ho : ops[i]? = some o) (hop : o.op = .alloc t) (hd : o.dst = some d) (hown : own d = true) (hg : o.guard = none) (ht : T t = some ts) (hkB : k ∈ B) (hkR : k ∉ R)
    (hb : s.base ≤ k) (hs : s.hp[k]? = some .slot) (hn : Nat.blt d s.n = true) (hk : regI P T own ops B R K is { s with ch := (d, .hptr k 0 0) :: s.ch, hp := s.hp.set k (.var ts.zero) }) : regI P T own ops B R K (i :: is) s :=
  ⟨o, ho, .inr (.inr (.inr ⟨_, ⟨by simp only [valKind, hop], by simp [effKind, hop, hd, hown], by simp [slotKind, hop, hd, hown], hg, t, d, ts, k, hop, hd, ht, hkB, hkR, hb, hs, hn, rfl⟩, hk⟩))⟩

theorem regI_slot2 {i : Nat} {is : List Nat} {t : TypeId} {d : Nat} {z : List AV} {s1 : St} (k : Nat) (ho : ops[i]? = some o) (hop : o.op = .alloc t) (hd : o.dst = some d) (hown : own d = true) (hg : o.guard = none) (hkB : k ∈ B) (hkR : k ∉ R)
    (hb : s.base ≤ k) (hs : s.hp[k]? = some .slot) (hn : Nat.blt d s.n = true) (hz : (T t).map TS.zero = some z) (he : ({ s with ch := (d, .hptr k 0 0) :: s.ch, hp := s.hp.set k (.var z) } : St) = s1) (hk : regI P T own ops B R K is s1) : regI P T own ops B R K (i :: is) s := by
  cases ht : T t with
  | none => rw [ht] at hz; cases hz
  | some ts =>
    rw [ht] at hz
    simp only [Option.map_some, Option.some.injEq] at hz
    subst hz; subst he
    exact regI_slot k ho hop hd hown hg ht hkB hkR hb hs hn hk

theorem regI_nil (h : K s) : regI P T own ops B R K [] s := h

end
end Go.Av

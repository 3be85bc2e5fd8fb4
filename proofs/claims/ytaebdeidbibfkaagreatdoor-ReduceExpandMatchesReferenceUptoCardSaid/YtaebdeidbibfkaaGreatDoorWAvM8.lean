/- The Av framework: operations that make an object, in drawn regions. No law is proved here. -/
import Derived.Test.YtaebdeidbibfkaaGreatDoorWAvM7
set_option linter.unusedSimpArgs false
set_option linter.unusedVariables false
set_option linter.unusedSectionVars false
namespace Go.Av
variable [Drawn]

theorem yh_of {s s' r : St} {d : Option Nat} {v : AV} {H : List AObj} {c : Prop} (h : (({ s with hp := H } : St).need c).setd d v = some r) (hc : r.cond) (hn : s'.n = s.n) (hc' : s'.cond) :
    Yh s' d v H ((({ s' with hp := H } : St).need c).setd d v) := by
  have hcc : c := (need_setd h hc).2
  cases d with
  | none =>
    refine ⟨_, rfl, ⟨hc', hcc⟩, rfl, ?_⟩
    simp [St.setd, St.need]
  | some t =>
    simp only [St.setd] at h
    cases hb : Nat.blt t (({ s with hp := H } : St).need c).n with
    | false => rw [hb] at h; cases h
    | true =>
      have hb' : Nat.blt t s'.n = true := by rw [hn]; exact hb
      refine ⟨{ ({ s' with hp := H } : St).need c with ch := (t, v) :: s'.ch }, ?_, ⟨hc', hcc⟩, rfl, ?_⟩
      · show (bif Nat.blt t s'.n then _ else _) = _
        rw [hb']; rfl
      · show (bif Nat.blt t s'.n then _ else _) = _
        rw [hb']; rfl

theorem yh_of0 {s s' r : St} {d : Option Nat} {v : AV} {H : List AObj} (h : ({ s with hp := H } : St).setd d v = some r) (hn : s'.n = s.n) (hc' : s'.cond) :
    Yh s' d v H (({ s' with hp := H } : St).setd d v) := by
  cases d with
  | none => exact ⟨_, rfl, hc', rfl, by simp [St.setd]⟩
  | some t =>
    simp only [St.setd] at h
    cases hb : Nat.blt t s.n with
    | false => rw [hb] at h; cases h
    | true =>
      have hb' : Nat.blt t s'.n = true := by rw [hn]; exact hb
      refine ⟨{ s' with hp := H, ch := (t, v) :: s'.ch }, ?_, hc', rfl, ?_⟩
      · show (bif Nat.blt t s'.n then _ else _) = _
        rw [hb']; rfl
      · show (bif Nat.blt t s'.n then _ else _) = _
        rw [hb']; rfl

theorem newBox_setd {s r : St} {d : Option Nat} {cs : List AV} (h : s.newBox d cs = some r) : ({ s with hp := s.hp ++ [AObj.var cs] } : St).setd d (.hptr s.hp.length 0 0) = some r ∧ ∃ t, d = some t := by
  cases d with
  | none => cases h
  | some t => exact ⟨h, t, rfl⟩

theorem newBox_eq {s : St} {t : Nat} {cs : List AV} : s.newBox (some t) cs = ({ s with hp := s.hp ++ [AObj.var cs] } : St).setd (some t) (.hptr s.hp.length 0 0) := rfl

theorem set_of_need {s r : St} {d : Option Nat} {v : AV} {H : List AObj} {c : Prop} (h : (({ s with hp := H } : St).need c).setd d v = some r) : ({ s with hp := H } : St).setd d v = some { r with cond := s.cond } := by
  cases d with
  | none => simp only [St.setd, Option.some.injEq] at h ⊢; subst h; rfl
  | some d =>
    simp only [St.setd] at h ⊢
    cases hb : Nat.blt d s.n with
    | false => rw [show (({ s with hp := H } : St).need c).n = s.n from rfl, hb] at h; cases h
    | true =>
      rw [show (({ s with hp := H } : St).need c).n = s.n from rfl, hb, cond_true, Option.some.injEq] at h
      subst h; rfl

section
variable {P : Program} {X : Ctx} {T : TT} {own : Nat → Bool} {ops : Array Oper} {B : List Nat} {R : Nat → List Nat} {K : St → Prop} {s : St}

/-- What an operation that makes an object does: the same at every state that agrees. -/
def EffOk (T : TT) (own : Nat → Bool) (B : List Nat) (ops : Array Oper) (o : Oper) (s : St) (v : AV) (f : List AObj → List AObj) : Prop := ∀ s', AgreeE B ops o s s' → Yh s' o.dst v (f s'.hp) (opf T own o s')

/-- .. and what it does with the heap. -/
def EffAll (T : TT) (own : Nat → Bool) (B : List Nat) (ops : Array Oper) (o : Oper) (s r : St) : Prop :=
  ∃ v f, EffOk T own B ops o s v f ∧ FOk B s.hp.length f ∧ r.hp = f s.hp ∧ ({ s with hp := r.hp } : St).setd o.dst v = some { r with cond := s.cond }

theorem setd_hp2 {s r : St} {d : Option Nat} {v : AV} {H : List AObj} (h : ({ s with hp := H } : St).setd d v = some r) (H' : List AObj) : ({ s with hp := H' } : St).setd d v = some { r with hp := H' } := setd_with (s := { s with hp := H }) h H'

theorem setd_need2 {s r : St} {d : Option Nat} {v : AV} {H : List AObj} {c : Prop} (h : (({ s with hp := H } : St).need c).setd d v = some r) (H' : List AObj) : (({ s with hp := H' } : St).need c).setd d v = some { r with hp := H' } := setd_with (s := ({ s with hp := H } : St).need c) h H'

theorem setd_self {s r : St} {d : Option Nat} {v : AV} {H : List AObj} (h : ({ s with hp := H } : St).setd d v = some r) : ({ s with hp := r.hp } : St).setd d v = some { r with cond := s.cond } := by
  obtain ⟨e1, e2, _⟩ := setd_some h
  obtain ⟨ch, hp, base, n, cond⟩ := r
  have e1 : hp = H := e1
  have e2 : cond = s.cond := e2
  subst e1; subst e2
  exact h

theorem eff_alloc (hS : slotsB B s.hp = true) {o : Oper} {t : TypeId} (ho : o.op = .alloc t) {r : St} (hf : opf T own o s = some r) : EffAll T own B ops o s r := by
  simp only [opf, ho, Option.bind_eq_some_iff] at hf
  obtain ⟨ts, hts, hf⟩ := hf
  obtain ⟨h1, t', ht⟩ := newBox_setd hf
  have e : r.hp = s.hp ++ [AObj.var ts.zero] := (setd_some h1).1
  have ec : r.cond = s.cond := (setd_some h1).2.1
  refine ⟨.hptr s.hp.length 0 0, fun hp => hp ++ [.var ts.zero], fun s' ha => ?_, fok_append (fun k hk => slotsB_lt hS hk) _, e, setd_self h1⟩
  simp only [opf, ho, hts, Option.bind_some]
  rw [ht] at h1 ⊢
  rw [newBox_eq, ha.2.2.2.1.1]
  exact yh_of0 (setd_hp2 h1 _) ha.1.1 ha.2.1

theorem eff_box (hS : slotsB B s.hp = true) {o : Oper} {t : TypeId} {x : Operand} (ho : o.op = .box t x) {r : St} (hf : opf T own o s = some r) : EffAll T own B ops o s r := by
  simp only [opf, ho] at hf
  cases hb : (cellsOf (s.ev x)).all isCell with
  | false => rw [hb] at hf; cases hf
  | true =>
    rw [hb, cond_true] at hf
    obtain ⟨h1, t', ht⟩ := newBox_setd hf
    have e : r.hp = s.hp ++ [AObj.var (cellsOf (s.ev x))] := (setd_some h1).1
    have ec : r.cond = s.cond := (setd_some h1).2.1
    refine ⟨.hptr s.hp.length 0 0, fun hp => hp ++ [.var (cellsOf (s.ev x))], fun s' ha => ?_, fok_append (fun k hk => slotsB_lt hS hk) _, e, setd_self h1⟩
    have hev : s'.ev x = s.ev x := ev_agree ha.1.2 ha.2.2.1 (by rw [ho]; simp [Op.operands])
    simp only [opf, ho, hev, hb, cond_true]
    rw [ht] at h1 ⊢
    rw [newBox_eq, ha.2.2.2.1.1]
    exact yh_of0 (setd_hp2 h1 _) ha.1.1 ha.2.1

theorem eff_makeSlice (hS : slotsB B s.hp = true) {o : Oper} {t : TypeId} {x y : Operand} (ho : o.op = .makeSlice t x y) (hown : (!own (o.dst.getD 0 + 2000)) = true) {r : St} (hf : opf T own o s = some r) (hc : r.cond) : EffAll T own B ops o s r := by
  have hown : own (o.dst.getD 0 + 2000) = false := by simpa using hown
  simp only [opf, ho, opMakeSlice, hown, cond_false, Option.bind_eq_some_iff] at hf
  obtain ⟨ts, hts, hf⟩ := hf
  split at hf
  · rename_i e n m hk hx hy
    simp only [Option.bind_eq_some_iff] at hf
    obtain ⟨te, hte, hf⟩ := hf
    cases hb : Nat.ble 1 te.size with
    | false => rw [hb] at hf; cases hf
    | true =>
      rw [hb, cond_true] at hf
      have e : r.hp = s.hp ++ [AObj.arr te.size n.toNat (fz n.toNat (constRow te.zero))] := (setd_some hf).1
      refine ⟨.sl s.hp.length 0 n.toNat, fun hp => hp ++ [.arr te.size n.toNat (fz n.toNat (constRow te.zero))], fun s' ha => ?_, fok_append (fun k hk => slotsB_lt hS hk) _, e, ?_⟩
      · have h1 : s'.ev x = s.ev x := ev_agree ha.1.2 ha.2.2.1 (by rw [ho]; simp [Op.operands])
        have h2 : s'.ev y = s.ev y := ev_agree ha.1.2 ha.2.2.1 (by rw [ho]; simp [Op.operands])
        simp only [opf, ho, opMakeSlice, hts, Option.bind_some, hk, h1, h2, hx, hy, hte, hb, hown, cond_true, cond_false]
        rw [ha.2.2.2.1.1]
        exact yh_of (setd_need2 hf _) (by exact hc) ha.1.1 ha.2.1
      · have := set_of_need hf; rw [e] at this ⊢; exact this
  · cases hf

theorem eff_buildSlice (hS : slotsB B s.hp = true) {o : Oper} {t : TypeId} {len : Nat} {ps : Array (Nat × Operand)} (ho : o.op = .buildSlice t len ps) (hown : own (o.dst.getD 0) = true) {r : St} (hf : opf T own o s = some r) : EffAll T own B ops o s r := by
  simp only [opf, ho, opBuildSlice, Option.bind_eq_some_iff] at hf
  obtain ⟨ts, hts, hf⟩ := hf
  cases hk : ts.kind with
  | slice e =>
    rw [hk] at hf
    simp only [Option.bind_eq_some_iff] at hf
    obtain ⟨te, hte, hf⟩ := hf
    cases hb : (Nat.ble (len * te.size) 16777216 && Nat.ble 1 te.size) with
    | false => rw [hb] at hf; cases hf
    | true =>
      rw [hb, cond_true] at hf
      simp only [Option.bind_eq_some_iff] at hf
      obtain ⟨cs, hcs, hf⟩ := hf
      cases hfr : cs.all isFree with
      | false => rw [hfr] at hf; cases hf
      | true =>
        rw [hfr, cond_true] at hf
        have hev : ∀ s', AgreeE B ops o s s' → (ps.toList.map fun p => (p.1, s'.ev p.2)) = ps.toList.map fun p => (p.1, s.ev p.2) := fun s' ha =>
          pairs_agree fun x hx => ev_agree ha.1.2 ha.2.2.1 (by rw [ho]; simpa [Op.operands] using hx)
        cases hl : Nat.beq len 0 with
        | true =>
          rw [hl, cond_true] at hf
          have e : r.hp = s.hp := (setd_some hf).1
          have ec : r.cond = s.cond := (setd_some hf).2.1
          refine ⟨.zsl, fun hp => hp, fun s' ha => ?_, fun hp k hk hn => ⟨rfl, fun _ => rfl⟩, e, setd_self (s := s) (H := s.hp) hf⟩
          simp only [opf, ho, opBuildSlice, hts, Option.bind_some, hk, hte, hb, cond_true, hev s' ha, hcs, hfr, hl]
          exact yh_of0 (s' := s') (H := s'.hp) (setd_hp2 (s := s) (H := s.hp) hf _) ha.1.1 ha.2.1
        | false =>
          rw [hl, cond_false, hown, cond_true] at hf
          have e : r.hp = s.hp ++ [AObj.arr te.size len (fz len (rowsOf te.size cs))] := (setd_some hf).1
          have ec : r.cond = s.cond := (setd_some hf).2.1
          refine ⟨.sl s.hp.length 0 len, fun hp => hp ++ [.arr te.size len (fz len (rowsOf te.size cs))], fun s' ha => ?_, fok_append (fun k hk => slotsB_lt hS hk) _, e, setd_self hf⟩
          simp only [opf, ho, opBuildSlice, hts, Option.bind_some, hk, hte, hb, cond_true, hev s' ha, hcs, hfr, hl, cond_false, hown]
          rw [ha.2.2.2.1.1]
          exact yh_of0 (setd_hp2 hf _) ha.1.1 ha.2.1
  | _ => rw [hk] at hf; cases hf

theorem eff_append (hS : slotsB B s.hp = true) {o : Oper} {c : Call} {t t' : TypeId} {x y : Operand} (ho : o.op = .call c) (hc1 : c.callee = .builtin .append) (hc2 : c.args.toList = [x, y]) (hc3 : c.argTypes.toList = [t, t']) (hown : own (o.dst.getD 0) = true) {r : St} (hf : opf T own o s = some r) (hc : r.cond) :
    EffAll T own B ops o s r := by
  have eopf : ∀ s : St, opf T own o s = opAppend T own s o.dst t t' (s.ev x) (s.ev y) := fun s => by simp only [opf, ho, hc1, hc2, hc3]
  rw [eopf] at hf
  simp only [opAppend, Option.bind_eq_some_iff] at hf
  obtain ⟨ts, hts, hf⟩ := hf
  have hop : ∀ z ∈ c.args.toList, z ∈ o.op.operands := fun z hz => by rw [ho]; simp [Op.operands, Call.operands]; exact .inr (by simpa using hz)
  have h1 : ∀ s', AgreeE B ops o s s' → s'.ev x = s.ev x := fun s' ha => ev_agree ha.1.2 ha.2.2.1 (hop x (by simp [hc2]))
  have h2 : ∀ s', AgreeE B ops o s s' → s'.ev y = s.ev y := fun s' ha => ev_agree ha.1.2 ha.2.2.1 (hop y (by simp [hc2]))
  have noarr : ∀ {id : Nat} {sz m : Nat} {row : Nat → List AV}, s.hp[id]? = some (.arr sz m row) → id ∉ B := fun h hb => by
    rcases slotsB_at hS hb with e | ⟨_, e⟩ <;> rw [e] at h <;> cases h
  have hrows : ∀ s', AgreeE B ops o s s' → ∀ v q, s.rows v = some q → s'.rows v = some q := fun s' ha v q hq => by
    cases v with
    | sl id b n =>
      simp only [St.rows] at hq ⊢
      cases hid : s.hp[id]? with
      | none => rw [hid] at hq; cases hq
      | some ob =>
        cases ob with
        | arr sz m row => rw [ha.2.2.2.1.2 id (noarr hid)]; exact hq
        | _ => rw [hid] at hq; cases hq
    | _ => exact hq
  cases hk : ts.kind with
  | slice e =>
    rw [hk] at hf
    simp only [Option.bind_eq_some_iff] at hf
    obtain ⟨te, hte, hf⟩ := hf
    cases hb : (Nat.ble 1 te.size && Nat.beq t t') with
    | false => rw [hb] at hf; cases hf
    | true =>
      rw [hb, cond_true] at hf
      simp only [Option.bind_eq_some_iff] at hf
      obtain ⟨src, hsrc, hf⟩ := hf
      have core : ∀ {f : List AObj → List AObj} {p : Prop} {v : AV}, FOk B s.hp.length f → (({ s with hp := f s.hp } : St).need p).setd o.dst v = some r →
          (∀ s', AgreeE B ops o s s' → opf T own o s' = (({ s' with hp := f s'.hp } : St).need p).setd o.dst v) → EffAll T own B ops o s r := by
        intro f p v hF hf hs
        have e : r.hp = f s.hp := (setd_some hf).1
        refine ⟨v, f, fun s' ha => ?_, hF, e, by have := set_of_need hf; rw [e] at this ⊢; exact this⟩
        rw [hs s' ha]
        exact yh_of (setd_need2 hf _) (by exact hc) ha.1.1 ha.2.1
      cases hx : s.ev x with
      | nilsl =>
        rw [hx] at hf
        rw [hown, cond_true] at hf
        refine core (f := fun hp => hp ++ [_]) (fok_append (fun k hk => slotsB_lt hS hk) _) hf fun s' ha => ?_
        rw [eopf]
        simp only [opAppend, hts, Option.bind_some, hk, hte, hb, cond_true, h1 s' ha, h2 s' ha, hrows s' ha _ _ hsrc, hx, hown]
        rw [ha.2.2.2.1.1]
      | zsl =>
        rw [hx] at hf
        rw [hown, cond_true] at hf
        refine core (f := fun hp => hp ++ [_]) (fok_append (fun k hk => slotsB_lt hS hk) _) hf fun s' ha => ?_
        rw [eopf]
        simp only [opAppend, hts, Option.bind_some, hk, hte, hb, cond_true, h1 s' ha, h2 s' ha, hrows s' ha _ _ hsrc, hx, hown]
        rw [ha.2.2.2.1.1]
      | sl id b n =>
        rw [hx] at hf
        simp only at hf
        cases hid : s.hp[id]? with
        | none => rw [hid] at hf; cases hf
        | some ob =>
          cases ob with
          | arr sz m row =>
            rw [hid] at hf
            simp only at hf
            cases hb2 : Nat.beq sz te.size with
            | false => rw [hb2] at hf; cases hf
            | true =>
              rw [hb2, cond_true] at hf
              have hnB := noarr hid
              cases hown4 : own (o.dst.getD 0 + 4000) with
              | true =>
                rw [hown4, cond_true] at hf
                refine core (f := fun hp => hp.set id _) (fun hp k hk hn => ?_) hf fun s' ha => ?_
                · have hne : id ≠ k := by rintro rfl; exact hnB hk
                  exact ⟨List.getElem?_set_ne hne, fun o => List.set_comm _ _ (Ne.symm hne)⟩
                · rw [eopf]
                  have hid' : s'.hp[id]? = some (.arr sz m row) := by rw [ha.2.2.2.1.2 id hnB]; exact hid
                  simp only [opAppend, hts, Option.bind_some, hk, hte, hb, cond_true, h1 s' ha, h2 s' ha, hrows s' ha _ _ hsrc, hx, ha.2.2.2.2, hid', hb2, hown4]
              | false =>
              rw [hown4, cond_false] at hf
              refine core (f := fun hp => hp.set id .dead ++ [_]) (fun hp k hk hn => ?_) hf fun s' ha => ?_
              · have hkl := slotsB_lt hS hk
                have hne : id ≠ k := by rintro rfl; exact hnB hk
                refine ⟨by rw [List.getElem?_append_left (by simp; omega), List.getElem?_set_ne hne], fun o => ?_⟩
                simp only
                rw [List.set_append_left k o (by simp; omega), List.set_comm _ _ hne]
              · rw [eopf]
                have hid' : s'.hp[id]? = some (.arr sz m row) := by rw [ha.2.2.2.1.2 id hnB]; exact hid
                simp only [opAppend, hts, Option.bind_some, hk, hte, hb, cond_true, h1 s' ha, h2 s' ha, hrows s' ha _ _ hsrc, hx, ha.2.2.2.2, hid', hb2, hown4, cond_false, ha.2.2.2.1.1]
          | _ => rw [hid] at hf; cases hf
      | _ => rw [hx] at hf; cases hf
  | _ => rw [hk] at hf; cases hf

/-- A store into what no operation of the region that yields a value looks into. -/
theorem regI_store {i : Nat} {is : List Nat} {o : Oper} {r : St} {t : TypeId} {a x : Operand} (ho : ops[i]? = some o) (hop : o.op = .store t a x) (hd : o.dst = none) (hown : own 3000 = true) (hg : guardA ops s o = some true) (hf : opf T own o s = some r) (hc : r.cond) (hsc : s.cond = True)
    (hR : ∀ k, freeB ops i k = true → ∀ id ∈ R k, r.hp[id]? = s.hp[id]?) (hBa : ∀ id ∈ refs (s.ev a), id ∉ B) (hk : regI P T own ops B R K is { r with cond := True }) : regI P T own ops B R K (i :: is) s := by
  have hev : ∀ {s' : St}, AgreeE B ops o s s' → s'.ev a = s.ev a ∧ s'.ev x = s.ev x := fun ha =>
    ⟨ev_agree ha.1.2 ha.2.2.1 (by rw [hop]; simp [Op.operands]), ev_agree ha.1.2 ha.2.2.1 (by rw [hop]; simp [Op.operands])⟩
  have main : ∃ id ob, id ∉ B ∧ r.hp = s.hp.set id ob ∧ ({ r with cond := s.cond } : St) = { s with hp := r.hp } ∧ ∀ s', AgreeE B ops o s s' → ∃ r', opf T own o s' = some r' ∧ r'.cond ∧ r'.hp = s'.hp.set id ob ∧ s' = { r' with cond := s'.cond, hp := s'.hp } := by
    simp only [opf, hop, hd] at hf
    unfold opStore at hf
    simp only [Option.bind_eq_some_iff] at hf
    obtain ⟨ts, hts, hf⟩ := hf
    cases hb : Nat.beq (cellsOf (s.ev x)).length ts.size with
    | false => rw [hb] at hf; cases hf
    | true =>
      rw [hb, cond_true] at hf
      split at hf
      · rename_i id idx off hax
        have hid : id ∉ B := hBa id (by rw [hax]; simp [refs])
        split at hf
        · rename_i sz n row hob
          cases hb2 : (Nat.ble (off + ts.size) sz && (cellsOf (s.ev x)).all isFree) with
          | false => rw [hb2] at hf; cases hf
          | true =>
            rw [hb2, cond_true, Option.some.injEq] at hf
            subst hf
            refine ⟨id, _, hid, rfl, rfl, fun s' ha => ?_⟩
            obtain ⟨h1, h2⟩ := hev ha
            have hob' : s'.hp[id]? = some (.arr sz n row) := by rw [ha.2.2.2.1.2 id hid]; exact hob
            refine ⟨({ s' with hp := s'.hp.set id (.arr sz n (fz n (setRow idx off (cellsOf (s.ev x)) row))) } : St).need (idx < n), ?_, ⟨ha.2.1, hc.2⟩, rfl, rfl⟩
            simp only [opf, hop, hd, opStore, hts, Option.bind_some, h1, h2, hb, cond_true, hax, hob', hb2]
        · rename_i cs hob
          cases hb2 : (Nat.beq idx 0 && Nat.ble (off + ts.size) cs.length && (cellsOf (s.ev x)).all isCell) with
          | false => rw [hb2] at hf; cases hf
          | true =>
            rw [hb2, cond_true, Option.some.injEq] at hf
            subst hf
            refine ⟨id, _, hid, rfl, rfl, fun s' ha => ?_⟩
            obtain ⟨h1, h2⟩ := hev ha
            have hob' : s'.hp[id]? = some (.var cs) := by rw [ha.2.2.2.1.2 id hid]; exact hob
            refine ⟨{ s' with hp := s'.hp.set id (.var (splice cs off (cellsOf (s.ev x)))) }, ?_, ha.2.1, rfl, rfl⟩
            simp only [opf, hop, hd, opStore, hts, Option.bind_some, h1, h2, hb, cond_true, hax, hob', hb2]
        · cases hf
      · cases hf
  obtain ⟨id, ob, hid, e, e2, h1⟩ := main
  refine ⟨o, ho, .inr (.inl ⟨by simp only [valKind, hop], by simp only [effKind, hop, hown], .undef, fun hp => hp.set id ob, { r with cond := True }, fun s' ha => ⟨true, by rw [guard_agree ha.2.2.1]; exact hg, ?_⟩, fun hp k hk hn => ?_, fun k hk id' hi => by show (s.hp.set id ob)[id']? = _; rw [← e]; exact hR k hk id' hi, ?_, hk⟩)⟩
  · rw [if_pos rfl]
    unfold Yo
    rw [hop]
    obtain ⟨r', q1, q2, q3, q4⟩ := h1 s' ha
    exact Yh.yw ⟨r', q1, q2, q3, by rw [hd]; exact congrArg some q4⟩
  · have hne : id ≠ k := by rintro rfl; exact hid hk
    exact ⟨List.getElem?_set_ne hne, fun o => List.set_comm _ _ (Ne.symm hne)⟩
  · rw [hd]
    show some ({ s with hp := s.hp.set id ob } : St) = _
    rw [← e, ← e2, hsc]

/-- An operation that makes an object. -/
theorem regI_eff {i : Nat} {is : List Nat} {o : Oper} {r : St} (ho : ops[i]? = some o) (hv : valKind own o = false) (he : effKind own o = true) (hp : isPure o = true) (hg : guardA ops s o = some true) (hf : opf T own o s = some r) (hc : r.cond) (hsc : s.cond = True)
    (hR : ∀ k, freeB ops i k = true → ∀ id ∈ R k, r.hp[id]? = s.hp[id]?) (hk : regI P T own ops B R K is { r with cond := True }) (hS : slotsB B s.hp = true := by rfl) (hst : ∀ t a x, o.op = .store t a x → own 3000 = false := by (intro _ _ _ h; cases h)) : regI P T own ops B R K (i :: is) s := by
  have main : EffAll T own B ops o s r := by
    unfold effKind at he
    split at he
    · rename_i t hop
      exact eff_alloc hS hop hf
    · rename_i t x hop
      exact eff_box hS hop hf
    · rename_i t x y hop
      exact eff_makeSlice hS hop he hf hc
    · exact absurd he (by rw [hst _ _ _ (by assumption)]; simp)
    · rename_i t n ps hop
      exact eff_buildSlice hS hop he hf
    · rename_i c hop
      split at he
      · rename_i hca
        have hargs : ∃ x y t t', c.args.toList = [x, y] ∧ c.argTypes.toList = [t, t'] := by
          simp only [opf, hop, hca] at hf
          split at hf
          · rename_i q1 q2 q3; exact absurd q1 (by simp)
          · rename_i h2 h3; exact ⟨_, _, _, _, h2, h3⟩
          · rename_i q1 q2 q3; exact absurd q1 (by simp)
          · rename_i q1 q2 q3; exact absurd q1 (by simp)
          · rename_i q1 q2; exact absurd q1 (by simp)
          · rename_i q1 q2; exact absurd q1 (by simp)
          · cases hf
        obtain ⟨x, y, t, t', h2, h3⟩ := hargs
        exact eff_append hS hop hca h2 h3 (by rw [Bool.and_eq_true] at he; exact he.1) hf hc
      · rename_i f hca
        simp only [isPure, hop, hca] at hp
        cases hp
      · cases he
    · cases he
  obtain ⟨v, f, h1, hF, e, h2⟩ := main
  refine ⟨o, ho, .inr (.inl ⟨hv, he, v, f, _, fun s' ha => ⟨true, by rw [guard_agree ha.2.2.1]; exact hg, ?_⟩, hF, fun k hk id hi => by rw [← e]; exact hR k hk id hi, by rw [← e]; exact h2, by rw [hsc]; exact hk⟩)⟩
  rw [if_pos rfl]
  unfold Yo
  split
  · rename_i c hop
    split
    · rename_i f hca; simp only [isPure, hop, hca] at hp; cases hp
    · exact (h1 s' ha).yw
  · exact (h1 s' ha).yw
end
end Go.Av

namespace Go.Av
variable [Drawn]
open Go.ChangeShapes Go.RowKit

section
variable {P : Program} {n : Nat} {t e : TypeId} {α β : Type}

def kB : Cod Bool := ⟨cB, fun _ => 1, fun _ => True⟩
def kI (k : IntKind) : Cod Int := ⟨cI k, fun _ => 1, fun n => (Lit.int k n).wf = true⟩
def kS : Cod Str := ⟨cS, fun s => s.size + 1, fun _ => True⟩
def kL (c : Cod α) : Cod (List α) := ⟨fun l => [aL c.cells l], fun l => (l.map c.sz).sum + 1, fun l => ∀ a ∈ l, c.ok a⟩

theorem o_kB (ht : P.underlying t = some .bool) : Opens P n t kB := (opens_bool ht).map kB (fun b => b) (fun _ _ => trivial) (fun _ => Nat.le_refl _) (fun _ => rfl)
theorem o_kI {k : IntKind} (ht : P.underlying t = some (.int k)) : Opens P n t (kI k) := (opens_int ht).map (kI k) (fun b => b) (fun _ h => h) (fun _ => Nat.le_refl _) (fun _ => rfl)
theorem o_kS (ht : P.underlying t = some .string) : Opens P n t kS := (opens_str ht).map kS (fun b => b) (fun _ _ => trivial) (fun _ => Nat.le_refl _) (fun _ => rfl)

theorem RowRep.list {w : World} {m : Nat} {row row' : Nat → List AV} {cs : List Value} (h : RowRep w [.list m row] cs) (hr : ∀ i, i < m → row i = row' i) : RowRep w [.list m row'] cs := by
  refine ⟨h.1, fun j c hj => ?_⟩
  cases j with
  | zero =>
    simp at hj; subst hj
    have := h.2 0 _ rfl
    exact ⟨rfl, RepF.congr this.2 hr⟩
  | succ j => simp at hj

theorem o_kL [Inhabited α] {c : Cod α} {k : Nat} (ht : P.underlying t = some (.slice e)) (hk : P.cellsOf e = k + 1) (hsz : ∀ a, (c.cells a).length = k + 1) (he : ∀ n, Opens P n e c) (n : Nat) : Opens P n t (kL c) := by
  revert n
  refine opens_any fun n => ?_
  constructor
  intro H enc B hB w base spare held fuel cs x hn hx
  obtain ⟨l, h1, h2, h3⟩ := (opens_slice' ht hk hsz (he n)).go hB hn hx
  refine ⟨l, h1, h2, h3.list fun i hi => ?_⟩
  simp [rw, List.getD, List.getElem?_map, List.getElem?_eq_getElem hi]

theorem kL_len {c : Cod α} (h : ∀ a, 1 ≤ c.sz a) (l : List α) : l.length ≤ (kL c).sz l := by
  show l.length ≤ (l.map c.sz).sum + 1
  induction l with
  | nil => simp
  | cons a l ih => have := h a; simp at ih ⊢; omega
end
end Go.Av

namespace Go.Av
variable [Drawn]

/-- A function's contract: at these arguments and objects it ends with this result and these objects. -/
structure ConH (P : Program) (G : List (Nat × AV)) (f : FuncId) (args : List AV) (H : List AObj) (r : AV) (H' : List AObj) : Prop where
  fn : Fn P f
  calls : CallsA P G f args H fun r' H'' => r' = r ∧ H'' = H'

/-- References that stay as they are. -/
def idL (n : Nat) : List (Option Nat) := (List.range n).map some

theorem Con.toH {P : Program} {G : List (Nat × AV)} {f : FuncId} {args : List AV} {r : AV} {H' : List AObj} (h : Con P G f args r H') : ConH P G f args [] r H' := ⟨h.fn, h.calls⟩
theorem ConH.toC {P : Program} {G : List (Nat × AV)} {f : FuncId} {args : List AV} {r : AV} {H' : List AObj} (h : ConH P G f args [] r H') : Con P G f args r H' := ⟨h.fn, h.calls⟩

theorem idL_get {n i : Nat} : (idL n)[i]? = (if i < n then some (some i) else none) := by
  unfold idL
  by_cases h : i < n
  · rw [if_pos h, List.getElem?_map, List.getElem?_range h]; rfl
  · rw [if_neg h]; exact List.getElem?_eq_none (by simp; omega)

/-- A state restated: the objects that were handed in stay where they are. -/
def lowB (base : Nat) (L : List (Option Nat)) : Bool := (List.range base).all fun i => match L[i]? with | some (some j) => Nat.beq j i | _ => false

theorem lowB_ok {base : Nat} {L : List (Option Nat)} (h : lowB base L = true) : base ≤ L.length ∧ ∀ i : Nat, i < base → L[i]? = some (some i) := by
  have hk : ∀ i : Nat, i < base → L[i]? = some (some i) := fun i hi => by
    have := List.all_eq_true.1 h i (List.mem_range.2 hi)
    split at this
    · rename_i j hj; rw [hj, Nat.eq_of_beq_eq_true this]
    · cases this
  refine ⟨?_, hk⟩
  cases base with
  | zero => omega
  | succ b => have := get_lt (hk b (by omega)); omega

/-- References that are used twice are used once alone by what lives. -/
def deadB : AObj → Bool
  | .dead => true
  | _ => false

def injB : List (Option Nat) → List AObj → Bool
  | [], _ => true
  | a :: L, hp => (match a with
      | none => true
      | some i => deadB (hp.headD .dead) || (List.range L.length).all fun k => (match L[k]? with | some (some j) => !(Nat.beq j i) || deadB (hp.tail.getD k .dead) | _ => true)) && injB L hp.tail

theorem deadB_live {o : AObj} (h : deadB o = true) : o = .dead := by cases o <;> first | rfl | cases h

theorem injB_ok : ∀ {L : List (Option Nat)} {hp : List AObj}, injB L hp = true → ∀ (i j id : Nat), L[i]? = some (some id) → L[j]? = some (some id) → Live hp i → Live hp j → i = j
  | [], hp, _, i, j, id, hi, _, _, _ => by simp at hi
  | a :: L, hp, h, i, j, id, hi, hj, li, lj => by
    have h : (_ && injB L hp.tail) = true := h
    rw [Bool.and_eq_true] at h
    have tl : ∀ {k : Nat}, Live hp (k + 1) → Live hp.tail k := fun {k} ⟨o, ho, hn⟩ => ⟨o, by rw [List.getElem?_tail]; exact ho, hn⟩
    have key : ∀ {k : Nat}, a = some id → L[k]? = some (some id) → Live hp 0 → Live hp (k + 1) → False := fun {k} ha hk l0 lk => by
      subst ha
      have h1 := h.1
      simp only [Bool.or_eq_true] at h1
      rcases h1 with h1 | h1
      · obtain ⟨o, ho, hn⟩ := l0
        have : hp.headD .dead = o := by cases hp <;> simp_all
        rw [this] at h1; exact hn (deadB_live h1)
      · have := List.all_eq_true.1 h1 k (List.mem_range.2 (get_lt hk))
        rw [hk] at this
        simp only [Nat.beq_refl, Bool.not_true, Bool.false_or] at this
        obtain ⟨o, ho, hn⟩ := tl lk
        rw [List.getD, ho] at this
        exact hn (deadB_live this)
    cases i with
    | zero =>
      cases j with
      | zero => rfl
      | succ j => exact (key (by simpa using hi) (by simpa using hj) li lj).elim
    | succ i =>
      cases j with
      | zero => exact (key (by simpa using hj) (by simpa using hi) lj li).elim
      | succ j => rw [injB_ok h.2 i j id (by simpa using hi) (by simpa using hj) (tl li) (tl lj)]

theorem relocH_mk {base : Nat} {hp hp' : List AObj} {L : List (Option Nat)} (hlen : hp'.length = L.length) (hlow : lowB base L = true) (hinj : injB L hp' = true) (hobj : ObjsLe hp L base 0 hp') : RelocH L base hp hp' :=
  ⟨hlen, (lowB_ok hlow).1, (lowB_ok hlow).2, injB_ok hinj, fun i o ho => by have := hobj.get i o ho; rwa [Nat.zero_add] at this⟩

/-- Restating with the references' places given. -/
def RelocL (L : List (Option Nat)) (s s' : St) : Prop := Reloc s s'

theorem RelocL.mk {s : St} {L : List (Option Nat)} {ch' : List (Nat × AV)} {hp' : List AObj} {b n : Nat} {c : Prop} {gl : List (Nat × AV)} (hb : b = s.base) (hn : n = s.n) (hgl : gl = s.gl) (hlen : hp'.length = L.length) (hlow : lowB s.base L = true) (hinj : injB L hp' = true)
    (hobj : ObjsLe s.hp L s.base 0 hp') (hch : ChLe s.hp L s.base s.ch ch') : RelocL L s { ch := ch', hp := hp', base := b, n := n, cond := c, gl := gl } :=
  ⟨hb, ⟨hn, hgl⟩, L, relocH_mk hlen hlow hinj hobj, look_le fun p hp => hch.mem p hp⟩

theorem AvLe.frz3 {hp : List AObj} {L : List (Option Nat)} {base id b n n' sz m : Nat} {row row' : Nat → List AV} (h : hp[id]? = some (.arr sz m row)) (hL : some id ∉ L) (hb : base ≤ id) (hn' : n' = n) (hn : b + n ≤ m) (hr : ∀ i, i < n → row (b + i) = row' i) : AvLe hp L base (.sl id b n) (.list n' row') := by
  subst hn'
  exact .frz id b n' sz m row row' h hb hL hn hr

theorem AvLe.closs {hp : List AObj} {L : List (Option Nat)} {base : Nat} {f : FuncId} {a c a' c' : List AV} (h1 : All2 (AvLe hp L base) a a') (h2 : All2 (AvLe hp L base) c c') : AvLe hp L base (.clos f a c) (.clos f a' c') := .clos f a c a' c' h1.len h2.len h1.get h2.get

theorem ObjLe.siter2 {hp : List AObj} {L : List (Option Nat)} {base i id p p' : Nat} {b b' : ByteArray} (h1 : L[i]? = some (some id)) (h2 : hp[id]? = some (.siter b p)) (hb : b' = b) (h : p' = p) : ObjLe hp L base i (.siter b' p') := by
  subst hb; subst h; exact ⟨id, h1, h2⟩

theorem ObjLe.var0 {hp : List AObj} {L : List (Option Nat)} {base i id : Nat} {cs cs' : List AV} (h1 : L[i]? = some (some id)) (h2 : hp[id]? = some (.var cs)) (hf : cs'.all isCell = true) (hc : All2 (AvLe hp L base) cs cs') : ObjLe hp L base i (.var cs') := ObjLe.var' h1 h2 hc hf

section
variable {P : Program} {X : Ctx} {T : TT} {own : Nat → Bool}

theorem conH_of (hT : TTOk P T) {f : FuncId} {fn : Func} {c : Code} (hf : P.funcs[f]? = some fn) (hb : fn.body = some c) {n : Nat} (hn : fn.ntmps = n) {rs : List ResultVar} (hrs : fn.results.toList = rs)
    (hname : (fn.name == "runtime.NumGoroutine") = false) {args : List AV} {G : List (Nat × AV)} {H : List AObj} {r : AV} {H' : List AObj} (hlen : args.length ≤ n) {ch : List (Nat × AV)} (hch : argsCh 0 args = ch) {k : Nat} (hk : H.length = k)
    (h : Wp P X0 c (endQ T rs k fun r' H'' => r' = r ∧ H'' = H') { ch := ch, hp := H, base := k, n := n, cond := True, gl := G }) : ConH P G f args H r H' := by
  subst hch; subst hk
  exact ⟨⟨fn, hf, by rw [hb]; rfl, by simpa using hname⟩, callsA_of hT hf hb hn hrs hlen h⟩

theorem endQ_retH {rs : List ResultVar} {s : St} {k : Nat} {v r : AV} {hp' H' : List AObj} {r' : AV} (L : List (Option Nat)) (hv : resA T s rs = some v) (hl : RelocH L k s.hp hp') (hle : AvLe s.hp L k v r') (e1 : r' = r) (e2 : hp' = H') : endQ T rs k (fun r' H'' => r' = r ∧ H'' = H') .ret s :=
  ⟨.inr rfl, v, hv, L, r', hp', hl, hle, e1, e2⟩

/-- The arguments and the objects of a contract, restated. -/
theorem ConH.args {G : List (Nat × AV)} {f : FuncId} {args args' : List AV} {H H0 : List AObj} {r : AV} {H' : List AObj} (h : ConH P G f args H r H') (hH : RelocH (idL H0.length) H0.length H0 H) (ha : All2 (AvLe H0 (idL H0.length) H0.length) args' args) : ConH P G f args' H0 r H' := by
  refine ⟨h.fn, fun E w vals hh hg hv => ?_⟩
  have hh' := reloc_heap hh hH
  have hl : H.length = H0.length := by rw [hH.len]; simp [idL]
  have hv' : ArgsRep (renv E (idL H0.length) H0.length H0 H) w args vals := ⟨by have := ha.len; have := hv.1; omega, fun i c hc => by
    have hi : i < args'.length := by have := ha.len; have := get_lt hc; omega
    exact reloc_rep hh hH (ha.get i _ c (List.getElem?_eq_getElem hi) hc) (hv.2 i _ (List.getElem?_eq_getElem hi))⟩
  have hown : ∀ b, Owned (renv E (idL H0.length) H0.length H0 H) H b → Owned E H0 b := fun b ⟨id, hv, hb⟩ => by
    obtain ⟨id', _, g2, g3⟩ := reloc_blk hH hv hb
    exact ⟨id', g2, g3⟩
  have hF : ∀ b, (renv E (idL H0.length) H0.length H0 H).F b → E.F b := fun b hb => by
    rcases hb with hb | ⟨id, h1, h2, h3, _⟩
    · exact hb
    · have := live_lt h2; omega
  have hk : ∀ id, id < H0.length → kept (idL H0.length) id = some id := fun id hi => kept_some (by rw [idL_get, if_pos hi])
  refine (h.calls _ w vals hh' (hg.mono fun _ hb => .inl hb) hv').mono fun e w' he => ?_
  cases e with
  | returned x =>
    obtain ⟨r', H'', E', hK, hr, haf⟩ := he
    refine ⟨r', H'', E', hK, hr, haf.heap, ?_, fun b hb => haf.F b (.inl hb), fun b hb => ?_, by rw [← hl]; exact haf.len, fun id hi => ?_, fun id b hi hv hb => ?_⟩
    · exact ⟨haf.keeps.os, haf.keeps.tape, haf.keeps.output, haf.keeps.size, fun b hb hn => haf.keeps.block b hb (fun ho => hn (hown b ho)), haf.keeps.frz, haf.keeps.drawn⟩
    · rcases haf.Fnew b hb with g | g | g
      · exact .inl (hF b g)
      · exact .inr (.inl g)
      · exact .inr (.inr (hown b g))
    · obtain ⟨a1, a2, a3, a4, a5⟩ := haf.old id (by omega)
      refine ⟨fun hv => ?_, by rw [a2]; simp only [renv, hk id hi]; rfl, by rw [a3]; simp only [renv, hk id hi], by rw [a4]; simp only [renv, hk id hi], by rw [a5]; simp only [renv, hk id hi]⟩
      rcases reloc_live hH (a1 hv) with g | ⟨id', g, q⟩
      · rw [idL_get, if_pos hi] at g; cases g
      · rw [idL_get, if_pos hi] at g; cases g; exact q
    · rcases haf.new id b (by omega) hv hb with g | g
      · exact .inl g
      · exact .inr (hown b g)
  | _ => exact he

/-- A call within a region that hands objects on. -/
theorem regv_callH {ops : Array Oper} {o : Oper} {os : List Oper} {K : St → Prop} {s s' : St} {c : Call} {f : Operand} {g : FuncId} {ags : List AV} {p1 : List AV} {p : List AV × Prop × Bool} {H H' : List AObj} {r : AV} (I : List Nat)
    (hc : ConH P s.gl g p1 H r H') (ho : o.op = .call c) (hcal : c.callee = .value f) (hg : guardA ops s o = some true) (hcl : calleeA s f c.args.toList = some (g, ags)) (hI : nodupB I = true) (hcd : closedB I s.hp = true)
    (hp : argsH I s.hp ags = some p) (hH : (passed I s.hp = H ∧ p.1 = p1) ∨ (RelocH (idL (passed I s.hp).length) (passed I s.hp).length (passed I s.hp) H ∧ All2 (AvLe (passed I s.hp) (idL (passed I s.hp).length) (passed I s.hp).length) p.1 p1)) (hpc : p.2.1)
    (hl : p.2.2 = true → isLocT r = true ∧ ∀ o ∈ H', LocObj o) (hs : ({ s with hp := putBack I s.hp H', cond := True } : St).setd o.dst (mapT (bid I s.hp.length) r) = some s') (hk : regv P T own ops os K s') : regv P T own ops (o :: os) K s := by
  have hc' : ConH P s.gl g p.1 (passed I s.hp) r H' := by
    rcases hH with ⟨e1, e2⟩ | ⟨e1, e2⟩
    · rw [e1, e2]; exact hc
    · exact hc.args e1 e2
  refine regv_op hg ?_
  unfold opv
  rw [ho]
  simp only
  rw [hcal]
  simp only
  exact ⟨(g, ags), hcl, .inr ⟨I, hc'.fn, hI, hcd, p, hp, hpc, hc'.calls.mono fun r' H'' ⟨h1, h2⟩ => by subst h1; subst h2; exact ⟨hl, s', hs, hk⟩⟩⟩

/-- .. in a region whose order is drawn: what stands ahead of it and behind it is bound to. -/
theorem regI_callH {B : List Nat} {R : Nat → List Nat} {ops : Array Oper} {i : Nat} {is : List Nat} {o : Oper} {K : St → Prop} {s s' : St} {c : Call} {f : Operand} {g : FuncId} {ags : List AV} {p1 : List AV} {p : List AV × Prop × Bool} {H H' : List AObj} {r : AV} (I : List Nat)
    (hc : ConH P s.gl g p1 H r H') (hoi : ops[i]? = some o) (hv : valKind own o = false) (he : effKind own o = false) (hsl : slotKind own o = false) (hgd : o.guard = none) (ho : o.op = .call c) (hcal : c.callee = .value f) (hcl : calleeA s f c.args.toList = some (g, ags)) (hI : nodupB I = true) (hcd : closedB I s.hp = true)
    (hp : argsH I s.hp ags = some p) (hH : (passed I s.hp = H ∧ p.1 = p1) ∨ (RelocH (idL (passed I s.hp).length) (passed I s.hp).length (passed I s.hp) H ∧ All2 (AvLe (passed I s.hp) (idL (passed I s.hp).length) (passed I s.hp).length) p.1 p1)) (hpc : p.2.1)
    (hl : p.2.2 = true → isLocT r = true ∧ ∀ o ∈ H', LocObj o) (hs : ({ s with hp := putBack I s.hp H', cond := True } : St).setd o.dst (mapT (bid I s.hp.length) r) = some s') (hcn : s'.cond) (hk : regI P T own ops B R K is s') : regI P T own ops B R K (i :: is) s := by
  have hc' : ConH P s.gl g p.1 (passed I s.hp) r H' := by
    rcases hH with ⟨e1, e2⟩ | ⟨e1, e2⟩
    · rw [e1, e2]; exact hc
    · exact hc.args e1 e2
  refine ⟨o, hoi, .inr (.inr (.inl ⟨hv, he, hsl, hgd, fun c hc => by (rw [ho] at hc; cases hc), fun E0 H0 w0 E a w N Q hm hn => ?_⟩))⟩
  exact callvH_sound hm ho hcal hcl (I := I) (K := fun s' => s'.cond ∧ regI P T own ops B R K is s') ⟨hc'.fn, hI, hcd, p, hp, hpc, hc'.calls.mono fun r' H'' ⟨h1, h2⟩ => by subst h1; subst h2; exact ⟨hl, s', hs, hcn, hk⟩⟩ hn

/-- What comes back as it was handed on. -/
def leafB : AV → Bool
  | .agg _ | .tup _ | .clos _ _ _ => false
  | _ => true
def rtC : AV → Bool
  | .agg _ | .tup _ => false
  | .clos _ a b => a.all leafB && b.all leafB
  | _ => true
def rtB : AObj → Bool
  | .var cs => cs.all rtC
  | _ => true

theorem bid_rid {I : List Nat} {n i : Nat} (h : i ∈ I) : bid I n (rid I i) = i := bid_lt (rid_get h)
theorem map0_rt {I : List Nat} {n : Nat} {v : AV} (h : ∀ i ∈ ids0 v, i ∈ I) (hl : leafB v = true) : map0 (bid I n) (map0 (rid I) v) = v := by
  cases v <;> first | rfl | (simp only [map0]; rw [bid_rid (h _ (by simp [ids0]))]) | cases hl
theorem mapC_rt {I : List Nat} {n : Nat} {v : AV} (h : ∀ i ∈ idsC v, i ∈ I) (hl : rtC v = true) : mapC (bid I n) (mapC (rid I) v) = v := by
  cases v with
  | clos f a b =>
    have hl : (a.all leafB && b.all leafB) = true := hl
    rw [Bool.and_eq_true] at hl
    have h : ∀ i ∈ a.flatMap ids0 ++ b.flatMap ids0, i ∈ I := h
    have go : ∀ l : List AV, l.all leafB = true → (∀ i ∈ l.flatMap ids0, i ∈ I) → (l.map (map0 (rid I))).map (map0 (bid I n)) = l := fun l hl hi => by
      rw [List.map_map]
      refine (List.map_congr_left fun c hc => ?_).trans (List.map_id _)
      exact map0_rt (fun i hi' => hi i (by simp only [List.mem_flatMap]; exact ⟨c, hc, hi'⟩)) (List.all_eq_true.1 hl c hc)
    simp only [mapC]
    rw [go a hl.1 (fun i hi => h i (by simp only [List.mem_append]; exact .inl hi)), go b hl.2 (fun i hi => h i (by simp only [List.mem_append]; exact .inr hi))]
  | agg => cases hl
  | tup => cases hl
  | _ => first | rfl | (simp only [mapC, map0]; rw [bid_rid (h _ (by simp [idsC, ids0]))])
theorem objMap_rt {I : List Nat} {n : Nat} {o : AObj} (h : ∀ i ∈ objIds o, i ∈ I) (hl : rtB o = true) : objMap (bid I n) (objMap (rid I) o) = o := by
  cases o with
  | var cs =>
    have h : ∀ i ∈ cs.flatMap idsC, i ∈ I := h
    simp only [objMap, List.map_map]
    congr 1
    refine (List.map_congr_left fun c hc => ?_).trans (List.map_id _)
    exact mapC_rt (fun i hi => h i (by simp only [List.mem_flatMap]; exact ⟨c, hc, hi⟩)) (List.all_eq_true.1 hl c hc)
  | _ => rfl

theorem putAt_self : ∀ (I : List Nat) (hp os : List AObj), os.length = I.length → (∀ (j i : Nat), I[j]? = some i → ∃ o, os[j]? = some o ∧ hp[i]? = some o) → putAt hp I os = hp
  | [], hp, os, hl, _ => by
    have : os = [] := List.eq_nil_of_length_eq_zero hl
    subst this; simp [putAt]
  | i :: I, hp, [], hl, _ => by simp at hl
  | i :: I, hp, o :: os, hl, h => by
    obtain ⟨o', e1, e2⟩ := h 0 i rfl
    simp only [List.getElem?_cons_zero, Option.some.injEq] at e1
    subst e1
    simp only [putAt]
    rw [set_self e2]
    exact putAt_self I hp os (by simpa using hl) fun j i' hj => by simpa using h (j + 1) i' (by simpa using hj)

theorem putBack_self {I : List Nat} {hp : List AObj} (hc : closedB I hp = true) (hr : I.all (fun i => rtB (hp.getD i .dead)) = true) : putBack I hp (passed I hp) = hp := by
  refine putAt_self I hp _ (by simp [passed]) fun j i hj => ?_
  have hm := List.mem_of_getElem? hj
  have h1 := List.all_eq_true.1 hc i hm
  rw [Bool.and_eq_true] at h1
  have hlt : i < hp.length := by simpa [Nat.blt, Nat.succ_le_iff] using h1.1
  have he : hp.getD i .dead = hp[i] := by simp [List.getD, hlt]
  have h2 := List.all_eq_true.1 hr i hm
  simp only [he] at h2
  rw [he] at h1
  refine ⟨hp[i], ?_, List.getElem?_eq_getElem hlt⟩
  simp only [passed, List.map_map, List.getElem?_map, hj, Option.map_some, Function.comp, he]
  rw [objMap_rt (fun k hk => memB_mem.1 (List.all_eq_true.1 h1.2 k hk)) h2]

theorem blt_of_get {hp : List AObj} {i : Nat} {o : AObj} (h : hp[i]? = some o) : Nat.blt i hp.length = true := by
  have := get_lt h
  simpa [Nat.blt, Nat.succ_le_iff] using this

theorem closedB_same {I : List Nat} {hp hp' : List AObj} (h : ∀ i ∈ I, hp'[i]? = hp[i]?) : closedB I hp = true → closedB I hp' = true := by
  intro hc
  refine List.all_eq_true.2 fun i hi => ?_
  have h1 := List.all_eq_true.1 hc i hi
  rw [Bool.and_eq_true] at h1 ⊢
  have hlt : i < hp.length := by simpa [Nat.blt, Nat.succ_le_iff] using h1.1
  have hg := List.getElem?_eq_getElem hlt
  refine ⟨blt_of_get ((h i hi).trans hg), ?_⟩
  rw [List.getD, h i hi]; exact h1.2

theorem passed_same {I : List Nat} {hp hp' : List AObj} (h : ∀ i ∈ I, hp'[i]? = hp[i]?) : passed I hp' = passed I hp :=
  List.map_congr_left fun i hi => by simp only [List.getD, h i hi]

theorem argsH_same {I : List Nat} {hp hp' : List AObj} : ∀ (vs : List AV), (∀ v ∈ vs, ∀ id ∈ refsD v, hp'[id]? = hp[id]?) → argsH I hp' vs = argsH I hp vs := by
  have h0 : ∀ v, (∀ id ∈ refs v, hp'[id]? = hp[id]?) → argH0 I hp' v = argH0 I hp v := by
    intro v hv
    cases v <;> first | rfl | (simp only [argH0]; rw [hv _ (by simp [refs])])
  have h1 : ∀ vs : List AV, (∀ v ∈ vs, ∀ id ∈ refs v, hp'[id]? = hp[id]?) → argsH0 I hp' vs = argsH0 I hp vs := by
    intro vs
    induction vs with
    | nil => intro _; rfl
    | cons v vs ih =>
      intro hv
      simp only [argsH0]
      rw [h0 v (hv v (by simp)), ih (fun u hu => hv u (by simp [hu]))]
  have h2 : ∀ v, (∀ id ∈ refsD v, hp'[id]? = hp[id]?) → argH I hp' v = argH I hp v := by
    intro v hv
    cases v with
    | agg cs =>
      simp only [argH]
      rw [h1 cs (fun u hu id hid => hv id (by simp only [refsD, List.mem_flatMap]; exact ⟨u, hu, hid⟩))]
    | clos f a c => rfl
    | _ => exact h0 _ (by simpa only [refsD] using hv)
  intro vs
  induction vs with
  | nil => intro _; rfl
  | cons v vs ih =>
    intro hv
    simp only [argsH]
    rw [h2 v (hv v (by simp)), ih (fun u hu => hv u (by simp [hu]))]

/-- A call that looks into the objects that it is handed and leaves them, in a region whose order is drawn. -/
theorem regI_callR {B : List Nat} {R : Nat → List Nat} {ops : Array Oper} {i : Nat} {is : List Nat} {o : Oper} {K : St → Prop} {s s1 : St} {c : Call} {f : Operand} {g : FuncId} {ags : List AV} {p1 : List AV} {p : List AV × Prop × Bool} {H : List AObj} {r : AV} (I : List Nat)
    (hc : ConH P s.gl g p1 H r H) (hoi : ops[i]? = some o) (ho : o.op = .call c) (hcal : c.callee = .value f) (hg : guardA ops s o = some true) (hcl : calleeA s f c.args.toList = some (g, ags)) (hI : nodupB I = true) (hcd : closedB I s.hp = true) (hIR : ∀ id ∈ I, id ∈ R i)
    (hp : argsH I s.hp ags = some p) (hw : ∀ v ∈ ags, ∀ id ∈ refsD v, id ∈ R i) (hH : passed I s.hp = H ∧ p.1 = p1) (hrt : I.all (fun i => rtB (s.hp.getD i .dead)) = true) (hpc : p.2.1) (hsc : isScalar r = true)
    (hl : p.2.2 = true → ∀ o ∈ H, LocObj o) (hs : s.setd o.dst r = some s1) (hk : regI P T own ops B R K is s1) (hown : own (o.dst.getD 0) = false) : regI P T own ops B R K (i :: is) s := by
  have hv : valKind own o = true := by simp only [valKind, ho, hcal, hown]; rfl
  refine ⟨o, hoi, .inl ⟨hv, r, s1, fun s' ha => ⟨true, by rw [guard_agree ha.2.2.1]; exact hg, ?_⟩, hs, hk⟩⟩
  rw [if_pos rfl]
  have hsame : ∀ i ∈ I, s'.hp[i]? = s.hp[i]? := fun i hi => ha.2.2.2 i (hIR i hi)
  have hpas := passed_same hsame
  have hcl' : calleeA s' f c.args.toList = some (g, ags) := by
    rw [← hcl]
    unfold calleeA
    have hf : s'.ev f = s.ev f := ev_agree ha.1.2 ha.2.2.1 (by rw [ho]; simp [Op.operands, Call.operands, hcal])
    have hev : c.args.toList.map s'.ev = c.args.toList.map s.ev := List.map_congr_left fun x hx => ev_agree ha.1.2 ha.2.2.1 (by rw [ho]; simp [Op.operands, Call.operands]; exact .inr (by simpa using hx))
    rw [hf, hev]
  unfold Yo
  rw [ho]
  simp only
  rw [hcal]
  obtain ⟨e1, e2⟩ := hH
  refine .inr ⟨(g, ags), I, p, hcl', hc.fn, hI, closedB_same hsame hcd, (argsH_same ags fun v hv id hid => ha.2.2.2 id (hw v hv id hid)).trans hp, hpc, hsc, by trivial, ?_, ?_, ?_⟩
  · refine putBack_self (closedB_same hsame hcd) ?_
    refine List.all_eq_true.2 fun i hi => ?_
    have := List.all_eq_true.1 hrt i hi
    simp only [List.getD, hsame i hi] at this ⊢; exact this
  · rw [hpas, e1]; exact hl
  · rw [hpas, e1, e2, ha.1.2]; exact hc.calls
end
end Go.Av

namespace Go.Av
variable [Drawn]

/-! ### the model's side: splits, guards, elements, names -/
section
variable {α β γ : Type} {G f : Prop} {r : β}

theorem sB {e : Bool} {A B : Option β} (h : (if e = true then A else B) = some r) (F : f) (h0 : e = false ∧ f → B = some r → G) (h1 : e = true ∧ f → A = some r → G) : G := by
  cases e with
  | true => exact h1 ⟨rfl, F⟩ (by simpa using h)
  | false => exact h0 ⟨rfl, F⟩ (by simpa using h)
theorem sD {p : Prop} [Decidable p] {A B : Option β} (h : (if decide p = true then A else B) = some r) (F : f) (h0 : ¬ p ∧ f → B = some r → G) (h1 : p ∧ f → A = some r → G) : G := by
  by_cases hp : p
  · exact h1 ⟨hp, F⟩ (by simpa [hp] using h)
  · exact h0 ⟨hp, F⟩ (by simpa [hp] using h)
theorem sE {p : Prop} [Decidable p] {A B : Option β} (h : (if decide p = true then A else B) = some r) (F : f) (h0 : ¬ p → ¬ p ∧ f → B = some r → G) (h1 : p → (p = True) ∧ f → A = some r → G) : G := by
  by_cases hp : p
  · exact h1 hp ⟨eq_true hp, F⟩ (by simpa [hp] using h)
  · exact h0 hp ⟨hp, F⟩ (by simpa [hp] using h)
theorem sDn {p : Prop} [Decidable p] {A B : Option β} (h : (if (!(decide p)) = true then A else B) = some r) (F : f) (h0 : p ∧ f → B = some r → G) (h1 : ¬ p ∧ f → A = some r → G) : G := by
  by_cases hp : p
  · exact h0 ⟨hp, F⟩ (by simpa [hp] using h)
  · exact h1 ⟨hp, F⟩ (by simpa [hp] using h)
theorem sEn {p : Prop} [Decidable p] {A B : Option β} (h : (if (!(decide p)) = true then A else B) = some r) (F : f) (h0 : p → (p = True) ∧ f → B = some r → G) (h1 : ¬ p → ¬ p ∧ f → A = some r → G) : G := by
  by_cases hp : p
  · exact h0 hp ⟨eq_true hp, F⟩ (by simpa [hp] using h)
  · exact h1 hp ⟨hp, F⟩ (by simpa [hp] using h)
theorem sP {p : Prop} [Decidable p] {A B : Option β} (h : (if p then A else B) = some r) (F : f) (h1 : p ∧ f → A = some r → G) (h0 : ¬ p ∧ f → B = some r → G) : G := by
  by_cases hp : p
  · exact h1 ⟨hp, F⟩ (by simpa [hp] using h)
  · exact h0 ⟨hp, F⟩ (by simpa [hp] using h)
theorem gd {p : Prop} [Decidable p] {o : Option β} (h : (if p then o else none) = some r) (F : f) (k : p ∧ f → o = some r → G) : G := let ⟨a, b⟩ := oguard h; k ⟨a, F⟩ b
theorem eI {l : List α} {k : Int} {g : α → Option β} (h : (atI l k).bind g = some r) (F : f) (K : ∀ x, (0 ≤ k ∧ k < (l.length : Int) ∧ l[k.toNat]? = some x ∧ ∀ hq : k.toNat < l.length, l[k.toNat] = x) ∧ f → g x = some r → G) : G := by
  obtain ⟨x, hx, h⟩ := obind h
  obtain ⟨a, b, c⟩ := atI_some hx
  exact K x ⟨⟨a, b, c, getElem_of c⟩, F⟩ h
theorem eN {l : List α} {m : Nat} {g : α → Option β} (h : (atI l (m : Int)).bind g = some r) (F : f) (K : ∀ x, (m < l.length ∧ l[m]? = some x ∧ ∀ hq : m < l.length, l[m] = x) ∧ f → g x = some r → G) : G := by
  obtain ⟨x, hx, h⟩ := obind h
  obtain ⟨a, b, c⟩ := atI_some hx
  rw [Int.toNat_natCast] at c
  exact K x ⟨⟨by omega, c, getElem_of c⟩, F⟩ h
theorem eT {b : ByteArray} {k : Int} {g : UInt8 → Option β} (h : (atI b.data.toList k).bind g = some r) (F : f) (K : ∀ x, (0 ≤ k ∧ k < (b.size : Int) ∧ b.data[k.toNat]? = some x ∧ ∀ hq : k.toNat < b.data.size, b.data[k.toNat] = x) ∧ f → g x = some r → G) : G := by
  obtain ⟨x, hx, h⟩ := obind h
  obtain ⟨a, b, c⟩ := atI_byte hx
  rw [Array.getElem?_toList] at c
  exact K x ⟨⟨a, b, c, fun hq => by rw [Array.getElem?_eq_getElem hq] at c; simpa using c⟩, F⟩ h
theorem eTN {b : ByteArray} {m : Nat} {g : UInt8 → Option β} (h : (atI b.data.toList (m : Int)).bind g = some r) (F : f) (K : ∀ x, (m < b.size ∧ b.data[m]? = some x ∧ ∀ hq : m < b.data.size, b.data[m] = x) ∧ f → g x = some r → G) : G := by
  obtain ⟨x, hx, h⟩ := obind h
  obtain ⟨a, b, c⟩ := atI_byte hx
  rw [Array.getElem?_toList, Int.toNat_natCast] at c
  exact K x ⟨⟨by omega, c, fun hq => by rw [Array.getElem?_eq_getElem hq] at c; simpa using c⟩, F⟩ h
theorem nm {γ : Type} (c : α → γ) {e : List α} {g : List α → Option β} {M : List γ} {N : Nat} (h : ((some e).bind g) = some r) (F : f) (K : ∀ v, (M = List.map c v ∧ v.length = N) ∧ f → g v = some r → G)
    (hm : List.map c e = M := by first | (simp [F]; rfl) | rfl) (hn : e.length = N := by first | (simp [F]; rfl) | rfl) : G := by
  exact K e ⟨⟨hm.symm, hn⟩, F⟩ h
theorem nmL {γ : Type} (c : α → γ) (N : Nat) {e : List α} {g : List α → Option β} {M : List γ} (h : ((some e).bind g) = some r) (F : f) (K : ∀ v, (M = List.map c v ∧ v.length = N) ∧ f → g v = some r → G)
    (hm : List.map c e = M := by first | (simp [F]; rfl) | rfl) (hn : e.length = N := by first | (simp [F]; done) | (simp [F]; omega) | (have hq := F; simp at hq; simp; omega)) : G := by
  exact K e ⟨⟨hm.symm, hn⟩, F⟩ h
theorem nl {γ : Type} (c : α → γ) {e : List α} {g : List α → Option β} {M : List γ} {N : Nat} (h : ((some e).bind g) = some r) (F : f) (K : ∀ v, M = List.map c v → (v.length = N) ∧ f → g v = some r → G)
    (hm : List.map c e = M := by first | (simp [F]; rfl) | rfl) (hn : e.length = N := by first | (simp [F]; rfl) | rfl) : G := by
  exact K e hm.symm ⟨hn, F⟩ h
end

/-- The first rows of an array. -/
theorem rwTk {γ : Type} {c : γ → List AV} {l : List γ} {m : Nat} : ∀ k, k < (l.take m).length → rw (l.map c) k = rw ((l.take m).map c) k := fun k hk => by
  rw [List.length_take] at hk
  simp only [rw, List.map_take, List.getElem?_take]
  rw [if_pos (by omega)]
theorem rwTkC {γ : Type} {c : γ → List AV} {l : List γ} {m : Nat} {B : List (List AV)} : ∀ k, k < (l.take m).length → rw ((l.map c).take m ++ B) k = rw ((l.take m).map c) k := fun k hk => by
  have h2 : k < ((l.map c).take m).length := by rw [← List.map_take, List.length_map]; exact hk
  simp only [rw]
  rw [List.getElem?_append_left h2, List.map_take]
theorem rwTk0 {γ : Type} {c : γ → List AV} {l : List γ} {m : Nat} : ∀ k, k < m → rw (l.map c) (0 + k) = rw ((l.take m).map c) k := fun k hk => by
  simp only [rw, List.map_take, List.getElem?_take, Nat.zero_add]
  rw [if_pos hk]
theorem rwTkB {γ : Type} {c : γ → List AV} {l : List γ} {b m : Nat} : ∀ k, k < m → rw (l.map c) (b + k) = rw (((l.drop b).take m).map c) k := fun k hk => by
  simp only [rw, List.map_take, List.map_drop, List.getElem?_take, List.getElem?_drop]
  rw [if_pos hk]

theorem ObjLe.raw' {hp : List AObj} {L : List (Option Nat)} {base i id : Nat} {o : Obj} (h1 : L[i]? = some (some id)) (h2 : hp[id]? = some (.raw o)) : ObjLe hp L base i (.raw o) := ⟨id, h1, h2⟩

/-! ### steps in a region -/
section
variable {P : Program} {X : Ctx} {T : TT} {own : Nat → Bool} {ops : Array Oper} {K : St → Prop} {s s1 : St} {o : Oper} {os : List Oper} {Q : Exit → St → Prop} {id : Nat} {c x y b : Code}

theorem rs (own : Nat → Bool) (h : regv P T own ops ops.toList (Wp P X b Q) s) (hT : TTOk P T := by exact tt_ok) : Wp P X (.seq (.region id ops false) b) Q s := Wp.reg_seq hT h
theorem rg (own : Nat → Bool) (h : regv P T own ops ops.toList (Q .normal) s) (hT : TTOk P T := by exact tt_ok) : Wp P X (.region id ops false) Q s := Wp.reg hT h
theorem rs0 (h : regv P T (fun _ => false) ops ops.toList (Wp P X b Q) s) (hT : TTOk P T := by exact tt_ok) : Wp P X (.seq (.region id ops false) b) Q s := Wp.reg_seq hT h
theorem rg0 (h : regv P T (fun _ => false) ops ops.toList (Q .normal) s) (hT : TTOk P T := by exact tt_ok) : Wp P X (.region id ops false) Q s := Wp.reg hT h

theorem vp (hk : regv P T own ops os K { s1 with cond := True }) (hp : isPure o = true := by rfl) (hg : guardA ops s o = some true := by rfl) (hf : opf T own o s = some s1 := by (simp [F]; rfl))
    (hc : s1.cond := by first | (simp [F]; done) | (simp [F]; omega) | (have hq := F; simp at hq; simp [F, hq]; done) | (have hq := F; simp at hq; simp [F, hq]; omega) | (have hq := F; simp at hq; omega)) : regv P T own ops (o :: os) K s := regv_pure hp hg hf hc hk
theorem vg (hk : regv P T own ops os K { s1 with cond := True }) (hp : isPure o = true := by rfl) (hg : guardA ops s o = some true := by first | (simp [F]; done) | (have hq := F; simp at hq; simp [F, hq]; done)) (hf : opf T own o s = some s1 := by (simp [F]; rfl))
    (hc : s1.cond := by first | (simp [F]; done) | (simp [F]; omega) | (have hq := F; simp at hq; simp [F, hq]; done) | (have hq := F; simp at hq; simp [F, hq]; omega) | (have hq := F; simp at hq; omega)) : regv P T own ops (o :: os) K s := regv_pure hp hg hf hc hk
theorem vs (hk : regv P T own ops os K s1) (hg : guardA ops s o = some false := by first | (simp [F]; done) | (have hq := F; simp at hq; simp [F, hq]; done)) (hf : s.setd o.dst (.tup []) = some s1 := by (simp [F]; rfl)) : regv P T own ops (o :: os) K s := regv_skip hg hf hk
theorem v1 {s' : St} {it : Operand} {b : ByteArray} {p k : Nat} (hk : regv P T own ops os K { s' with cond := True }) (ho : o.op = .next it true := by rfl) (hi : s.ev it = .hptr k 0 0 := by rfl) (hob : s.hp[k]? = some (.siter b p) := by rfl) (hlt : p < b.size := by first | (simp [F]; done) | (simp [F]; omega)) (hg : guardA ops s o = some true := by rfl)
    (hs : ({ s with hp := s.hp.set k (.siter b (p + (Utf8.decode b p).2)) } : St).setd o.dst (.tup [.bool true, .int .i64 (p : Int), .int .i32 ((Utf8.decode b p).1 : Int)]) = some s' := by (simp [F]; rfl)) : regv P T own ops (o :: os) K s := regv_next1 ho hi hob hlt hg hs hk
theorem v0 {s' : St} {it : Operand} {b : ByteArray} {p k : Nat} (hk : regv P T own ops os K { s' with cond := True }) (ho : o.op = .next it true := by rfl) (hi : s.ev it = .hptr k 0 0 := by rfl) (hob : s.hp[k]? = some (.siter b p) := by rfl) (hlt : ¬ p < b.size := by first | (simp [F]; done) | (simp [F]; omega)) (hg : guardA ops s o = some true := by rfl)
    (hs : s.setd o.dst (.tup [.bool false]) = some s' := by (simp [F]; rfl)) : regv P T own ops (o :: os) K s := regv_next0 ho hi hob hlt hg hs hk
theorem v2 {s' : St} {it : Operand} {k : Nat} {cur : Option (AV × AV)} {left : List (AV × AV)} (hk : regv P T own ops os K { s' with cond := True }) (ho : o.op = .next it false := by rfl) (hi : s.ev it = .hptr k 0 0 := by rfl) (hob : s.hp[k]? = some (.miter cur left) := by rfl) (hl : left = [] := by (simp [F, mAV_emp]; done)) (hg : guardA ops s o = some true := by rfl)
    (hs : s.setd o.dst (.tup [.bool false]) = some s' := by (simp [F]; rfl)) : regv P T own ops (o :: os) K s := regv_nextm0 ho hi hob hl hg hs hk
theorem v3 {α β γ : Type} {X : List (α × β)} {c : α → AV} {d : β → List AV} {f : α × β → List (α × β) → Option γ} {r : γ} {it : Operand} {k : Nat} {cur : Option (AV × AV)} (h : Agr X f = some r)
    (hk : ∀ (e : α × β) (X' : List (α × β)), f e X' = some r → ∃ s', ({ s with hp := s.hp.set k (.miter (some (c e.1, (d e.2).headD .undef)) (mAV c d X')) } : St).setd o.dst (.tup [.bool true, c e.1, (d e.2).headD .undef]) = some s' ∧ regv P T own ops os K { s' with cond := True })
    (ho : o.op = .next it false := by rfl) (hi : s.ev it = .hptr k 0 0 := by rfl) (hob : s.hp[k]? = some (.miter cur (mAV c d X)) := by rfl) (hl : mAV c d X ≠ [] := by (simp [F, mAV_emp]; done)) (hg : guardA ops s o = some true := by rfl) : regv P T own ops (o :: os) K s :=
  regv_nextm1 ho hi hob hl hg fun i e he => by
    obtain ⟨p, hp, rfl⟩ := mAV_get c d X he
    rw [mAV_eraseIdx]
    exact hk p _ (Agr.at h hp)
theorem ve {s' : St} {it : Operand} {k : Nat} {e : AV × AV} {left : List (AV × AV)} (hk : regv P T own ops os K { s' with cond := True }) (ho : o.op = .entry it := by rfl) (hi : s.ev it = .hptr k 0 0 := by rfl) (hob : s.hp[k]? = some (.miter (some e) left) := by rfl) (hg : guardA ops s o = some true := by rfl)
    (hs : s.setd o.dst (.tup [e.1, e.2]) = some s' := by (simp [F]; rfl)) : regv P T own ops (o :: os) K s := regv_entrym ho hi hob hg hs hk
theorem vm {s' : St} {t kt vt : TypeId} {x : Operand} {id : Nat} {es : List (AV × AV)} {ts : TS} (hk : regv P T own ops os K { s' with cond := True }) (ho : o.op = .range t x := by rfl) (hx : s.ev x = .mp id := by rfl) (hob : s.hp[id]? = some (.map es) := by rfl) (hbs : s.base ≤ id := by first | exact Nat.zero_le _ | decide) (hts : T t = some ts := by rfl) (htk : ts.kind = .map kt vt := by rfl)
    (hs : ({ s with hp := s.hp.set id .dead ++ [.miter none es] } : St).setd o.dst (.hptr s.hp.length 0 0) = some s' := by (simp [F]; rfl)) (hg : guardA ops s o = some true := by rfl) : regv P T own ops (o :: os) K s := regv_rangem ho hx hob hbs hts htk hs hg hk
theorem vn (h : K s) : regv P T own ops [] K s := h
theorem vr (L : List (Option Nat)) (s1 : St) (hk : regv P T own ops (o :: os) K s1) (hr : RelocL L s s1) : regv P T own ops (o :: os) K s := regv_reloc hr hk

/-- A call of a plain function. -/
theorem vc {s' : St} {cl : Call} {f : Operand} {g : FuncId} {ags : List AV} {p1 : List AV} {p : List AV × Prop × Bool} {r : AV} {H' : List AObj}
    (hc : Con P s.gl g p1 r H') (hk : regv P T own ops os K s') (hg : guardA ops s o = some true := by rfl) (ho : o.op = .call cl := by rfl) (hcal : cl.callee = .value f := by rfl) (hcl : calleeA s f cl.args.toList = some (g, ags) := by rfl) (hp : toArgs s.hp ags = some p := by (simp [F]; rfl))
    (he : p.1 = p1 ∨ All2 (AvLe [] [] 0) p.1 p1 := by (first | exact .inl rfl | (refine .inl ?_; simp [F]; done) | (refine .inr ?_; dsimp only; (repeat' first | exact All2.nil | refine All2.cons ?_ ?_ | exact AvLe.refl _ rfl | refine AvLe.aggs ?_) <;> first | exact AvLe.refl _ rfl | exact AvLe.nil _ | exact AvLe.znil _ | exact AvLe.list' (by first | (simp [F]; done) | (simp [F]; omega) | (have hq := F; simp at hq; simp [F, hq]; omega)) (by simp [F]; done) | exact AvLe.eq (by simp [F]; done) rfl)))
    (hpc : p.2.1 := by first | (simp [F]; done) | (simp [F]; omega) | (have hq := F; simp at hq; simp [F, hq]; done) | (have hq := F; simp at hq; simp [F, hq]; omega) | (have hq := F; simp at hq; omega))
    (hl : p.2.2 = true → H' = [] ∧ isScalar r = true := by (simp; done)) (hs : ({ s with hp := s.hp ++ H'.map (objShift s.hp.length), cond := True } : St).setd o.dst (shift s.hp.length r) = some s' := by (simp [F]; rfl)) : regv P T own ops (o :: os) K s :=
  regv_call2 hc ho hcal hg hcl hp he hpc hl hs hk

/-! ### posts that hang on what a state says alone -/
def QE (Q : Exit → St → Prop) : Prop := ∀ s s' : St, Eqv s s' → s.cond → Q .normal s → Q .normal s'

theorem Reloc.eqv {s s' t : St} (he : Eqv s s') (h : Reloc s t) : Reloc s' t := by
  obtain ⟨e1, e2, e3, ⟨e4, e5⟩, _⟩ := he
  obtain ⟨h1, ⟨h2, h2'⟩, L, h3, h4⟩ := h
  exact ⟨by rw [h1, e3], ⟨by rw [h2, e4], by rw [h2', e5]⟩, L, by rw [e2, e3]; exact h3, fun t => by rw [e1, e2, e3]; exact h4 t⟩

theorem qe_loop {α : Type} {S : α → St} {I : Nat → α → Prop} {Q : Exit → St → Prop} {n : Nat} : QE (loopF S I Q n) := fun s s' he _ ⟨y, h1, h2⟩ => ⟨y, h1, h2.eqv he⟩
theorem qe_join {α : Type} {S : α → St} {I : α → Prop} {Q : Exit → St → Prop} : QE (joinQ S I Q) := fun s s' he _ ⟨y, h1, h2⟩ => ⟨y, h1, h2.eqv he⟩
theorem qe_seq {b : Code} {Q Q0 : Exit → St → Prop} : QE (seqQ (Wp P X b Q) Q0) := fun s s' he _ h E0 H0 w0 E a w hd hm => h E0 H0 w0 E a w hd (hm.eqv he.symm)
theorem qe_block {id : Nat} {Q : Exit → St → Prop} (h : QE Q) : QE (blockQ id Q) := fun s s' he hc h2 => h s s' he hc h2

theorem resOne_eqv {s s' : St} (he : Eqv s s') (r : ResultVar) : resOne T s' r = resOne T s r := by
  obtain ⟨e1, e2, _⟩ := he
  cases r <;> simp only [resOne, e1, e2]
theorem resAll_eqv {s s' : St} (he : Eqv s s') : ∀ rs : List ResultVar, resAll T s' rs = resAll T s rs
  | [] => rfl
  | r :: rs => by simp only [resAll, resOne_eqv he r, resAll_eqv he rs]
theorem resA_eqv {s s' : St} (he : Eqv s s') (rs : List ResultVar) : resA T s' rs = resA T s rs := by
  unfold resA
  split
  · exact resOne_eqv he _
  · rw [resAll_eqv he]
theorem qe_end {rs : List ResultVar} {k : Nat} {K : AV → List AObj → Prop} : QE (endQ T rs k K) := fun s s' he _ h => by
  obtain ⟨h0, v, h1, L, r, H', h2, h3, h4⟩ := h
  exact ⟨h0, v, by rw [resA_eqv he]; exact h1, L, r, H', by rw [he.2.1]; exact h2, by rw [he.2.1]; exact h3, h4⟩

theorem Wp.drawnQ (B : List Nat) (hT : TTOk P T) (hM : P.follows .mixedOrders = true) {id : Nat} {Q : Exit → St → Prop} {s : St} (R : Nat → List Nat) (hB : drawnB own ops = true) (hc : s.cond) (hQ : QE Q)
    (h : regI P T own ops B R (Q .normal) (List.range ops.size) s) : Wp P X (.region id ops true) Q s := fun E0 H0 w0 E a w hd hm => by
  refine wpIn_region_any hM ?_
  refine any_sound (Q := MQ X E0 H0 w0 Q) hT hB hQ (fun s E a w hk hd hm => MQ.of hd hk hm) ops.size (List.range ops.size) _ s E a _ (by simp) List.pairwise_lt_range ?_ ?_ (by simp) hc h hd (hm.same (Same.drew w))
  · intro i
    simp only [List.mem_range]
    constructor
    · intro hi; exact ⟨hi, by simp [Array.getD, hi]⟩
    · exact fun h => h.1
  · intro k o hok hk
    have hkl := (Array.getElem?_eq_some_iff.1 hok).1
    simp [Array.getD, hkl] at hk

/-! ### code -/
theorem cT (h1 : Wp P X x Q s) {cc : Operand} (ht : s.ev cc = .bool true := by first | (simp [F]; done) | (simp [F]; omega) | (have hq := F; simp at hq; simp [F, hq]; done) | (have hq := F; simp at hq; simp [F, hq]; omega) | (have hq := F; simp at hq; omega)) : Wp P X (.cond cc x y) Q s := Wp.cond true ht (fun _ => h1) (fun h => by cases h)
theorem cF (h1 : Wp P X y Q s) {cc : Operand} (ht : s.ev cc = .bool false := by first | (simp [F]; done) | (simp [F]; omega) | (have hq := F; simp at hq; simp [F, hq]; done) | (have hq := F; simp at hq; simp [F, hq]; omega) | (have hq := F; simp at hq; omega)) : Wp P X (.cond cc x y) Q s := Wp.cond false ht (fun h => by cases h) (fun _ => h1)
theorem sh (h : Wp P X c Q s) : Wp P X c Q s := h
end
end Go.Av

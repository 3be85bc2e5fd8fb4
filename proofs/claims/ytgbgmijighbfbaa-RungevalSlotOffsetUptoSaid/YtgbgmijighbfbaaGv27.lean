/- The Av framework: operations that make an object, in drawn regions. No law is proved here. -/
import Derived.Test.YtgbgmijighbfbaaGv26
set_option linter.unusedSimpArgs false
set_option linter.unusedVariables false
set_option linter.unusedSectionVars false
namespace Go.Av

theorem yh_of {s s' r : St} {d : Option Nat} {v : AV} {H : List AObj} {c : Prop} (h : (({ s with hp := H } : St).need c).setd d v = some r) (hc : r.cond) (hn : s'.n = s.n) (hc' : s'.cond) :
    Yh s' d v H ((({ s' with hp := H } : St).need c).setd d v) := by
  have hcc : c := (need_setd h hc).2
  cases d with
  | none =>
    refine ⟨_, rfl, ⟨hc', hcc⟩, rfl, ?_⟩
    simp [St.setd, St.need]
  | some t =>
    simp only [St.setd] at h
    cases hb : Nat.blt t (({ s with hp := H } : St).need c).n with
    | false => rw [hb] at h; cases h
    | true =>
      have hb' : Nat.blt t s'.n = true := by rw [hn]; exact hb
      refine ⟨{ ({ s' with hp := H } : St).need c with ch := (t, v) :: s'.ch }, ?_, ⟨hc', hcc⟩, rfl, ?_⟩
      · show (bif Nat.blt t s'.n then _ else _) = _
        rw [hb']; rfl
      · show (bif Nat.blt t s'.n then _ else _) = _
        rw [hb']; rfl

theorem yh_of0 {s s' r : St} {d : Option Nat} {v : AV} {H : List AObj} (h : ({ s with hp := H } : St).setd d v = some r) (hn : s'.n = s.n) (hc' : s'.cond) :
    Yh s' d v H (({ s' with hp := H } : St).setd d v) := by
  cases d with
  | none => exact ⟨_, rfl, hc', rfl, by simp [St.setd]⟩
  | some t =>
    simp only [St.setd] at h
    cases hb : Nat.blt t s.n with
    | false => rw [hb] at h; cases h
    | true =>
      have hb' : Nat.blt t s'.n = true := by rw [hn]; exact hb
      refine ⟨{ s' with hp := H, ch := (t, v) :: s'.ch }, ?_, hc', rfl, ?_⟩
      · show (bif Nat.blt t s'.n then _ else _) = _
        rw [hb']; rfl
      · show (bif Nat.blt t s'.n then _ else _) = _
        rw [hb']; rfl

theorem newBox_setd {s r : St} {d : Option Nat} {cs : List AV} (h : s.newBox d cs = some r) : ({ s with hp := s.hp ++ [AObj.var cs] } : St).setd d (.hptr s.hp.length 0 0) = some r ∧ ∃ t, d = some t := by
  cases d with
  | none => cases h
  | some t => exact ⟨h, t, rfl⟩

theorem newBox_eq {s : St} {t : Nat} {cs : List AV} : s.newBox (some t) cs = ({ s with hp := s.hp ++ [AObj.var cs] } : St).setd (some t) (.hptr s.hp.length 0 0) := rfl

theorem set_of_need {s r : St} {d : Option Nat} {v : AV} {H : List AObj} {c : Prop} (h : (({ s with hp := H } : St).need c).setd d v = some r) : ({ s with hp := H } : St).setd d v = some { r with cond := s.cond } := by
  cases d with
  | none => simp only [St.setd, Option.some.injEq] at h ⊢; subst h; rfl
  | some d =>
    simp only [St.setd] at h ⊢
    cases hb : Nat.blt d s.n with
    | false => rw [show (({ s with hp := H } : St).need c).n = s.n from rfl, hb] at h; cases h
    | true =>
      rw [show (({ s with hp := H } : St).need c).n = s.n from rfl, hb, cond_true, Option.some.injEq] at h
      subst h; rfl

section
variable {P : Program} {T : TT} {own : Nat → Bool} {ops : Array Oper} {B R : List Nat} {K : St → Prop} {s : St}

/-- What an operation that makes an object does: the same at every state that agrees. -/
def EffOk (T : TT) (own : Nat → Bool) (B : List Nat) (ops : Array Oper) (o : Oper) (s : St) (v : AV) (f : List AObj → List AObj) : Prop := ∀ s', AgreeE B ops o s s' → Yh s' o.dst v (f s'.hp) (opf T own o s')

/-- .. and what it does with the heap. -/
def EffAll (T : TT) (own : Nat → Bool) (B : List Nat) (ops : Array Oper) (o : Oper) (s r : St) : Prop :=
  ∃ v f, EffOk T own B ops o s v f ∧ FOk B s.hp.length f ∧ r.hp = f s.hp ∧ ({ s with hp := r.hp } : St).setd o.dst v = some { r with cond := s.cond }

theorem setd_hp2 {s r : St} {d : Option Nat} {v : AV} {H : List AObj} (h : ({ s with hp := H } : St).setd d v = some r) (H' : List AObj) : ({ s with hp := H' } : St).setd d v = some { r with hp := H' } := setd_with (s := { s with hp := H }) h H'

theorem setd_need2 {s r : St} {d : Option Nat} {v : AV} {H : List AObj} {c : Prop} (h : (({ s with hp := H } : St).need c).setd d v = some r) (H' : List AObj) : (({ s with hp := H' } : St).need c).setd d v = some { r with hp := H' } := setd_with (s := ({ s with hp := H } : St).need c) h H'

theorem setd_self {s r : St} {d : Option Nat} {v : AV} {H : List AObj} (h : ({ s with hp := H } : St).setd d v = some r) : ({ s with hp := r.hp } : St).setd d v = some { r with cond := s.cond } := by
  obtain ⟨e1, e2, _⟩ := setd_some h
  obtain ⟨ch, hp, base, n, cond⟩ := r
  have e1 : hp = H := e1
  have e2 : cond = s.cond := e2
  subst e1; subst e2
  exact h

theorem eff_alloc (hS : slotsB B s.hp = true) {o : Oper} {t : TypeId} (ho : o.op = .alloc t) {r : St} (hf : opf T own o s = some r) : EffAll T own B ops o s r := by
  simp only [opf, ho, Option.bind_eq_some_iff] at hf
  obtain ⟨ts, hts, hf⟩ := hf
  obtain ⟨h1, t', ht⟩ := newBox_setd hf
  have e : r.hp = s.hp ++ [AObj.var ts.zero] := (setd_some h1).1
  have ec : r.cond = s.cond := (setd_some h1).2.1
  refine ⟨.hptr s.hp.length 0 0, fun hp => hp ++ [.var ts.zero], fun s' ha => ?_, fok_append (fun k hk => slotsB_lt hS hk) _, e, setd_self h1⟩
  simp only [opf, ho, hts, Option.bind_some]
  rw [ht] at h1 ⊢
  rw [newBox_eq, ha.2.2.2.1.1]
  exact yh_of0 (setd_hp2 h1 _) ha.1 ha.2.1

theorem eff_box (hS : slotsB B s.hp = true) {o : Oper} {t : TypeId} {x : Operand} (ho : o.op = .box t x) {r : St} (hf : opf T own o s = some r) : EffAll T own B ops o s r := by
  simp only [opf, ho] at hf
  cases hb : (cellsOf (s.ev x)).all isCell with
  | false => rw [hb] at hf; cases hf
  | true =>
    rw [hb, cond_true] at hf
    obtain ⟨h1, t', ht⟩ := newBox_setd hf
    have e : r.hp = s.hp ++ [AObj.var (cellsOf (s.ev x))] := (setd_some h1).1
    have ec : r.cond = s.cond := (setd_some h1).2.1
    refine ⟨.hptr s.hp.length 0 0, fun hp => hp ++ [.var (cellsOf (s.ev x))], fun s' ha => ?_, fok_append (fun k hk => slotsB_lt hS hk) _, e, setd_self h1⟩
    have hev : s'.ev x = s.ev x := ev_agree ha.2.2.1 (by rw [ho]; simp [Op.operands])
    simp only [opf, ho, hev, hb, cond_true]
    rw [ht] at h1 ⊢
    rw [newBox_eq, ha.2.2.2.1.1]
    exact yh_of0 (setd_hp2 h1 _) ha.1 ha.2.1

theorem eff_makeSlice (hS : slotsB B s.hp = true) {o : Oper} {t : TypeId} {x y : Operand} (ho : o.op = .makeSlice t x y) {r : St} (hf : opf T own o s = some r) (hc : r.cond) : EffAll T own B ops o s r := by
  simp only [opf, ho, opMakeSlice, Option.bind_eq_some_iff] at hf
  obtain ⟨ts, hts, hf⟩ := hf
  split at hf
  · rename_i e n m hk hx hy
    simp only [Option.bind_eq_some_iff] at hf
    obtain ⟨te, hte, hf⟩ := hf
    cases hb : Nat.ble 1 te.size with
    | false => rw [hb] at hf; cases hf
    | true =>
      rw [hb, cond_true] at hf
      have e : r.hp = s.hp ++ [AObj.arr te.size n.toNat (fz n.toNat (constRow te.zero))] := (setd_some hf).1
      refine ⟨.sl s.hp.length 0 n.toNat, fun hp => hp ++ [.arr te.size n.toNat (fz n.toNat (constRow te.zero))], fun s' ha => ?_, fok_append (fun k hk => slotsB_lt hS hk) _, e, ?_⟩
      · have h1 : s'.ev x = s.ev x := ev_agree ha.2.2.1 (by rw [ho]; simp [Op.operands])
        have h2 : s'.ev y = s.ev y := ev_agree ha.2.2.1 (by rw [ho]; simp [Op.operands])
        simp only [opf, ho, opMakeSlice, hts, Option.bind_some, hk, h1, h2, hx, hy, hte, hb, cond_true]
        rw [ha.2.2.2.1.1]
        exact yh_of (setd_need2 hf _) (by exact hc) ha.1 ha.2.1
      · have := set_of_need hf; rw [e] at this ⊢; exact this
  · cases hf

theorem eff_buildSlice (hS : slotsB B s.hp = true) {o : Oper} {t : TypeId} {len : Nat} {ps : Array (Nat × Operand)} (ho : o.op = .buildSlice t len ps) (hown : own (o.dst.getD 0) = true) {r : St} (hf : opf T own o s = some r) : EffAll T own B ops o s r := by
  simp only [opf, ho, opBuildSlice, Option.bind_eq_some_iff] at hf
  obtain ⟨ts, hts, hf⟩ := hf
  cases hk : ts.kind with
  | slice e =>
    rw [hk] at hf
    simp only [Option.bind_eq_some_iff] at hf
    obtain ⟨te, hte, hf⟩ := hf
    cases hb : (Nat.ble (len * te.size) 16777216 && Nat.ble 1 te.size) with
    | false => rw [hb] at hf; cases hf
    | true =>
      rw [hb, cond_true] at hf
      simp only [Option.bind_eq_some_iff] at hf
      obtain ⟨cs, hcs, hf⟩ := hf
      cases hfr : cs.all isFree with
      | false => rw [hfr] at hf; cases hf
      | true =>
        rw [hfr, cond_true] at hf
        have hev : ∀ s', AgreeE B ops o s s' → (ps.toList.map fun p => (p.1, s'.ev p.2)) = ps.toList.map fun p => (p.1, s.ev p.2) := fun s' ha =>
          pairs_agree fun x hx => ev_agree ha.2.2.1 (by rw [ho]; simpa [Op.operands] using hx)
        cases hl : Nat.beq len 0 with
        | true =>
          rw [hl, cond_true] at hf
          have e : r.hp = s.hp := (setd_some hf).1
          have ec : r.cond = s.cond := (setd_some hf).2.1
          refine ⟨.zsl, fun hp => hp, fun s' ha => ?_, fun hp k hk hn => ⟨rfl, fun _ => rfl⟩, e, setd_self (s := s) (H := s.hp) hf⟩
          simp only [opf, ho, opBuildSlice, hts, Option.bind_some, hk, hte, hb, cond_true, hev s' ha, hcs, hfr, hl]
          exact yh_of0 (s' := s') (H := s'.hp) (setd_hp2 (s := s) (H := s.hp) hf _) ha.1 ha.2.1
        | false =>
          rw [hl, cond_false, hown, cond_true] at hf
          have e : r.hp = s.hp ++ [AObj.arr te.size len (fz len (rowsOf te.size cs))] := (setd_some hf).1
          have ec : r.cond = s.cond := (setd_some hf).2.1
          refine ⟨.sl s.hp.length 0 len, fun hp => hp ++ [.arr te.size len (fz len (rowsOf te.size cs))], fun s' ha => ?_, fok_append (fun k hk => slotsB_lt hS hk) _, e, setd_self hf⟩
          simp only [opf, ho, opBuildSlice, hts, Option.bind_some, hk, hte, hb, cond_true, hev s' ha, hcs, hfr, hl, cond_false, hown]
          rw [ha.2.2.2.1.1]
          exact yh_of0 (setd_hp2 hf _) ha.1 ha.2.1
  | _ => rw [hk] at hf; cases hf

theorem eff_append (hS : slotsB B s.hp = true) {o : Oper} {c : Call} {t t' : TypeId} {x y : Operand} (ho : o.op = .call c) (hc1 : c.callee = .builtin .append) (hc2 : c.args.toList = [x, y]) (hc3 : c.argTypes.toList = [t, t']) (hown : own (o.dst.getD 0) = true) {r : St} (hf : opf T own o s = some r) (hc : r.cond) :
    EffAll T own B ops o s r := by
  have eopf : ∀ s : St, opf T own o s = opAppend T own s o.dst t t' (s.ev x) (s.ev y) := fun s => by simp only [opf, ho, hc1, hc2, hc3]
  rw [eopf] at hf
  simp only [opAppend, Option.bind_eq_some_iff] at hf
  obtain ⟨ts, hts, hf⟩ := hf
  have hop : ∀ z ∈ c.args.toList, z ∈ o.op.operands := fun z hz => by rw [ho]; simp [Op.operands, Call.operands]; exact .inr (by simpa using hz)
  have h1 : ∀ s', AgreeE B ops o s s' → s'.ev x = s.ev x := fun s' ha => ev_agree ha.2.2.1 (hop x (by simp [hc2]))
  have h2 : ∀ s', AgreeE B ops o s s' → s'.ev y = s.ev y := fun s' ha => ev_agree ha.2.2.1 (hop y (by simp [hc2]))
  have noarr : ∀ {id : Nat} {sz m : Nat} {row : Nat → List AV}, s.hp[id]? = some (.arr sz m row) → id ∉ B := fun h hb => by
    rcases slotsB_at hS hb with e | ⟨_, e⟩ <;> rw [e] at h <;> cases h
  have hrows : ∀ s', AgreeE B ops o s s' → ∀ v q, s.rows v = some q → s'.rows v = some q := fun s' ha v q hq => by
    cases v with
    | sl id b n =>
      simp only [St.rows] at hq ⊢
      cases hid : s.hp[id]? with
      | none => rw [hid] at hq; cases hq
      | some ob =>
        cases ob with
        | arr sz m row => rw [ha.2.2.2.1.2 id (noarr hid)]; exact hq
        | _ => rw [hid] at hq; cases hq
    | _ => exact hq
  cases hk : ts.kind with
  | slice e =>
    rw [hk] at hf
    simp only [Option.bind_eq_some_iff] at hf
    obtain ⟨te, hte, hf⟩ := hf
    cases hb : (Nat.ble 1 te.size && Nat.beq t t') with
    | false => rw [hb] at hf; cases hf
    | true =>
      rw [hb, cond_true] at hf
      simp only [Option.bind_eq_some_iff] at hf
      obtain ⟨src, hsrc, hf⟩ := hf
      have core : ∀ {f : List AObj → List AObj} {p : Prop} {v : AV}, FOk B s.hp.length f → (({ s with hp := f s.hp } : St).need p).setd o.dst v = some r →
          (∀ s', AgreeE B ops o s s' → opf T own o s' = (({ s' with hp := f s'.hp } : St).need p).setd o.dst v) → EffAll T own B ops o s r := by
        intro f p v hF hf hs
        have e : r.hp = f s.hp := (setd_some hf).1
        refine ⟨v, f, fun s' ha => ?_, hF, e, by have := set_of_need hf; rw [e] at this ⊢; exact this⟩
        rw [hs s' ha]
        exact yh_of (setd_need2 hf _) (by exact hc) ha.1 ha.2.1
      cases hx : s.ev x with
      | nilsl =>
        rw [hx] at hf
        rw [hown, cond_true] at hf
        refine core (f := fun hp => hp ++ [_]) (fok_append (fun k hk => slotsB_lt hS hk) _) hf fun s' ha => ?_
        rw [eopf]
        simp only [opAppend, hts, Option.bind_some, hk, hte, hb, cond_true, h1 s' ha, h2 s' ha, hrows s' ha _ _ hsrc, hx, hown]
        rw [ha.2.2.2.1.1]
      | zsl =>
        rw [hx] at hf
        rw [hown, cond_true] at hf
        refine core (f := fun hp => hp ++ [_]) (fok_append (fun k hk => slotsB_lt hS hk) _) hf fun s' ha => ?_
        rw [eopf]
        simp only [opAppend, hts, Option.bind_some, hk, hte, hb, cond_true, h1 s' ha, h2 s' ha, hrows s' ha _ _ hsrc, hx, hown]
        rw [ha.2.2.2.1.1]
      | sl id b n =>
        rw [hx] at hf
        simp only at hf
        cases hid : s.hp[id]? with
        | none => rw [hid] at hf; cases hf
        | some ob =>
          cases ob with
          | arr sz m row =>
            rw [hid] at hf
            simp only at hf
            cases hb2 : (Nat.beq sz te.size && Nat.ble s.base id) with
            | false => rw [hb2] at hf; cases hf
            | true =>
              rw [hb2, cond_true] at hf
              have hnB := noarr hid
              refine core (f := fun hp => hp.set id .dead ++ [_]) (fun hp k hk hn => ?_) hf fun s' ha => ?_
              · have hkl := slotsB_lt hS hk
                have hne : id ≠ k := by rintro rfl; exact hnB hk
                refine ⟨by rw [List.getElem?_append_left (by simp; omega), List.getElem?_set_ne hne], fun o => ?_⟩
                simp only
                rw [List.set_append_left k o (by simp; omega), List.set_comm _ _ hne]
              · rw [eopf]
                have hid' : s'.hp[id]? = some (.arr sz m row) := by rw [ha.2.2.2.1.2 id hnB]; exact hid
                simp only [opAppend, hts, Option.bind_some, hk, hte, hb, cond_true, h1 s' ha, h2 s' ha, hrows s' ha _ _ hsrc, hx, ha.2.2.2.2, hid', hb2, ha.2.2.2.1.1]
          | _ => rw [hid] at hf; cases hf
      | _ => rw [hx] at hf; cases hf
  | _ => rw [hk] at hf; cases hf

/-- An operation that makes an object. -/
theorem regI_eff {i : Nat} {is : List Nat} {o : Oper} {r : St} (ho : ops[i]? = some o) (hv : valKind own o = false) (he : effKind own o = true) (hp : isPure o = true) (hg : guardA ops s o = some true) (hf : opf T own o s = some r) (hc : r.cond) (hsc : s.cond = True)
    (hR : ∀ id ∈ R, r.hp[id]? = s.hp[id]?) (hk : regI P T own ops B R K is { r with cond := True }) (hS : slotsB B s.hp = true := by rfl) : regI P T own ops B R K (i :: is) s := by
  have main : EffAll T own B ops o s r := by
    unfold effKind at he
    split at he
    · rename_i t hop
      exact eff_alloc hS hop hf
    · rename_i t x hop
      exact eff_box hS hop hf
    · rename_i t x y hop
      exact eff_makeSlice hS hop hf hc
    · rename_i t n ps hop
      exact eff_buildSlice hS hop he hf
    · rename_i c hop
      split at he
      · rename_i hca
        have hargs : ∃ x y t t', c.args.toList = [x, y] ∧ c.argTypes.toList = [t, t'] := by
          simp only [opf, hop, hca] at hf
          split at hf
          · rename_i q1 q2 q3; exact absurd q1 (by simp)
          · rename_i h2 h3; exact ⟨_, _, _, _, h2, h3⟩
          · rename_i q1 q2 q3; exact absurd q1 (by simp)
          · cases hf
        obtain ⟨x, y, t, t', h2, h3⟩ := hargs
        exact eff_append hS hop hca h2 h3 he hf hc
      · rename_i f hca
        simp only [isPure, hop, hca] at hp
        cases hp
      · cases he
    · cases he
  obtain ⟨v, f, h1, hF, e, h2⟩ := main
  refine ⟨o, ho, .inr (.inl ⟨hv, he, v, f, _, fun s' ha => ⟨true, by rw [guard_agree ha.2.2.1]; exact hg, ?_⟩, hF, fun id hi => by rw [← e]; exact hR id hi, by rw [← e]; exact h2, by rw [hsc]; exact hk⟩)⟩
  rw [if_pos rfl]
  unfold Yo
  split
  · rename_i c hop
    split
    · rename_i f hca; simp only [isPure, hop, hca] at hp; cases hp
    · exact h1 s' ha
  · exact h1 s' ha
end
end Go.Av

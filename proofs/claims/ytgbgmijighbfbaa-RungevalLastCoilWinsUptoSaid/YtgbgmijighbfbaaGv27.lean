/- The Av framework: operations that make an object, in drawn regions. No law is proved here. -/
import Derived.Test.YtgbgmijighbfbaaGv26
set_option linter.unusedSimpArgs false
set_option linter.unusedVariables false
set_option linter.unusedSectionVars false
namespace Go.Av

theorem yh_of {s s' r : St} {d : Option Nat} {v : AV} {H : List AObj} {c : Prop} (h : (({ s with hp := H } : St).need c).setd d v = some r) (hc : r.cond) (hn : s'.n = s.n) (hc' : s'.cond) :
    Yh s' d v H ((({ s' with hp := H } : St).need c).setd d v) := by
  have hcc : c := (need_setd h hc).2
  cases d with
  | none =>
    refine ⟨_, rfl, ⟨hc', hcc⟩, rfl, ?_⟩
    simp [St.setd, St.need]
  | some t =>
    simp only [St.setd] at h
    cases hb : Nat.blt t (({ s with hp := H } : St).need c).n with
    | false => rw [hb] at h; cases h
    | true =>
      have hb' : Nat.blt t s'.n = true := by rw [hn]; exact hb
      refine ⟨{ ({ s' with hp := H } : St).need c with ch := (t, v) :: s'.ch }, ?_, ⟨hc', hcc⟩, rfl, ?_⟩
      · show (bif Nat.blt t s'.n then _ else _) = _
        rw [hb']; rfl
      · show (bif Nat.blt t s'.n then _ else _) = _
        rw [hb']; rfl

theorem yh_of0 {s s' r : St} {d : Option Nat} {v : AV} {H : List AObj} (h : ({ s with hp := H } : St).setd d v = some r) (hn : s'.n = s.n) (hc' : s'.cond) :
    Yh s' d v H (({ s' with hp := H } : St).setd d v) := by
  cases d with
  | none => exact ⟨_, rfl, hc', rfl, by simp [St.setd]⟩
  | some t =>
    simp only [St.setd] at h
    cases hb : Nat.blt t s.n with
    | false => rw [hb] at h; cases h
    | true =>
      have hb' : Nat.blt t s'.n = true := by rw [hn]; exact hb
      refine ⟨{ s' with hp := H, ch := (t, v) :: s'.ch }, ?_, hc', rfl, ?_⟩
      · show (bif Nat.blt t s'.n then _ else _) = _
        rw [hb']; rfl
      · show (bif Nat.blt t s'.n then _ else _) = _
        rw [hb']; rfl

theorem newBox_setd {s r : St} {d : Option Nat} {cs : List AV} (h : s.newBox d cs = some r) : ({ s with hp := s.hp ++ [AObj.var cs] } : St).setd d (.hptr s.hp.length 0 0) = some r ∧ ∃ t, d = some t := by
  cases d with
  | none => cases h
  | some t => exact ⟨h, t, rfl⟩

theorem newBox_eq {s : St} {t : Nat} {cs : List AV} : s.newBox (some t) cs = ({ s with hp := s.hp ++ [AObj.var cs] } : St).setd (some t) (.hptr s.hp.length 0 0) := rfl

theorem set_of_need {s r : St} {d : Option Nat} {v : AV} {H : List AObj} {c : Prop} (h : (({ s with hp := H } : St).need c).setd d v = some r) : ({ s with hp := H } : St).setd d v = some { r with cond := s.cond } := by
  cases d with
  | none => simp only [St.setd, Option.some.injEq] at h ⊢; subst h; rfl
  | some d =>
    simp only [St.setd] at h ⊢
    cases hb : Nat.blt d s.n with
    | false => rw [show (({ s with hp := H } : St).need c).n = s.n from rfl, hb] at h; cases h
    | true =>
      rw [show (({ s with hp := H } : St).need c).n = s.n from rfl, hb, cond_true, Option.some.injEq] at h
      subst h; rfl

section
variable {P : Program} {T : TT} {own : Nat → Bool} {ops : Array Oper} {R : List Nat} {K : St → Prop} {s : St}

/-- What an operation that makes an object does: the same at every state that agrees. -/
def EffOk (T : TT) (own : Nat → Bool) (ops : Array Oper) (o : Oper) (s : St) (v : AV) (H : List AObj) : Prop := ∀ s', AgreeE ops o s s' → Yh s' o.dst v H (opf T own o s')

theorem eff_alloc {o : Oper} {t : TypeId} (ho : o.op = .alloc t) {r : St} (hf : opf T own o s = some r) : ∃ v, EffOk T own ops o s v r.hp ∧ ({ s with hp := r.hp } : St).setd o.dst v = some r := by
  simp only [opf, ho, Option.bind_eq_some_iff] at hf
  obtain ⟨ts, hts, hf⟩ := hf
  obtain ⟨h1, t', ht⟩ := newBox_setd hf
  have e : r.hp = s.hp ++ [AObj.var ts.zero] := (setd_some h1).1
  refine ⟨.hptr s.hp.length 0 0, fun s' ha => ?_, by rw [e]; exact h1⟩
  simp only [opf, ho, hts, Option.bind_some]
  rw [ht] at h1 ⊢
  rw [newBox_eq, ha.2.2.2.1, e]
  exact yh_of0 h1 ha.1 ha.2.1

theorem eff_box {o : Oper} {t : TypeId} {x : Operand} (ho : o.op = .box t x) {r : St} (hf : opf T own o s = some r) : ∃ v, EffOk T own ops o s v r.hp ∧ ({ s with hp := r.hp } : St).setd o.dst v = some r := by
  simp only [opf, ho] at hf
  cases hb : (cellsOf (s.ev x)).all isCell with
  | false => rw [hb] at hf; cases hf
  | true =>
    rw [hb, cond_true] at hf
    obtain ⟨h1, t', ht⟩ := newBox_setd hf
    have e : r.hp = s.hp ++ [AObj.var (cellsOf (s.ev x))] := (setd_some h1).1
    refine ⟨.hptr s.hp.length 0 0, fun s' ha => ?_, by rw [e]; exact h1⟩
    have hev : s'.ev x = s.ev x := ev_agree ha.2.2.1 (by rw [ho]; simp [Op.operands])
    simp only [opf, ho, hev, hb, cond_true]
    rw [ht] at h1 ⊢
    rw [newBox_eq, ha.2.2.2.1, e]
    exact yh_of0 h1 ha.1 ha.2.1

theorem eff_makeSlice {o : Oper} {t : TypeId} {x y : Operand} (ho : o.op = .makeSlice t x y) {r : St} (hf : opf T own o s = some r) (hc : r.cond) : ∃ v, EffOk T own ops o s v r.hp ∧ ({ s with hp := r.hp } : St).setd o.dst v = some { r with cond := s.cond } := by
  simp only [opf, ho, opMakeSlice, Option.bind_eq_some_iff] at hf
  obtain ⟨ts, hts, hf⟩ := hf
  split at hf
  · rename_i e n m hk hx hy
    simp only [Option.bind_eq_some_iff] at hf
    obtain ⟨te, hte, hf⟩ := hf
    cases hb : Nat.ble 1 te.size with
    | false => rw [hb] at hf; cases hf
    | true =>
      rw [hb, cond_true] at hf
      have e : r.hp = s.hp ++ [AObj.arr te.size n.toNat (fz n.toNat (constRow te.zero))] := (setd_some hf).1
      refine ⟨.sl s.hp.length 0 n.toNat, fun s' ha => ?_, ?_⟩
      · have h1 : s'.ev x = s.ev x := ev_agree ha.2.2.1 (by rw [ho]; simp [Op.operands])
        have h2 : s'.ev y = s.ev y := ev_agree ha.2.2.1 (by rw [ho]; simp [Op.operands])
        simp only [opf, ho, opMakeSlice, hts, Option.bind_some, hk, h1, h2, hx, hy, hte, hb, cond_true]
        rw [ha.2.2.2.1, e]
        exact yh_of hf hc ha.1 ha.2.1
      · have := set_of_need hf; rw [e] at this ⊢; exact this
  · cases hf

theorem eff_buildSlice {o : Oper} {t : TypeId} {len : Nat} {ps : Array (Nat × Operand)} (ho : o.op = .buildSlice t len ps) (hown : own (o.dst.getD 0) = true) {r : St} (hf : opf T own o s = some r) : ∃ v, EffOk T own ops o s v r.hp ∧ ({ s with hp := r.hp } : St).setd o.dst v = some r := by
  simp only [opf, ho, opBuildSlice, Option.bind_eq_some_iff] at hf
  obtain ⟨ts, hts, hf⟩ := hf
  cases hk : ts.kind with
  | slice e =>
    rw [hk] at hf
    simp only [Option.bind_eq_some_iff] at hf
    obtain ⟨te, hte, hf⟩ := hf
    cases hb : (Nat.ble (len * te.size) 16777216 && Nat.ble 1 te.size) with
    | false => rw [hb] at hf; cases hf
    | true =>
      rw [hb, cond_true] at hf
      simp only [Option.bind_eq_some_iff] at hf
      obtain ⟨cs, hcs, hf⟩ := hf
      cases hfr : cs.all isFree with
      | false => rw [hfr] at hf; cases hf
      | true =>
        rw [hfr, cond_true] at hf
        have hev : ∀ s', AgreeE ops o s s' → (ps.toList.map fun p => (p.1, s'.ev p.2)) = ps.toList.map fun p => (p.1, s.ev p.2) := fun s' ha =>
          pairs_agree fun x hx => ev_agree ha.2.2.1 (by rw [ho]; simpa [Op.operands] using hx)
        cases hl : Nat.beq len 0 with
        | true =>
          rw [hl, cond_true] at hf
          have e : r.hp = s.hp := (setd_some hf).1
          refine ⟨.zsl, fun s' ha => ?_, by rw [e]; exact hf⟩
          simp only [opf, ho, opBuildSlice, hts, Option.bind_some, hk, hte, hb, cond_true, hev s' ha, hcs, hfr, hl]
          have := yh_of0 (s' := s') (H := s.hp) hf ha.1 ha.2.1
          rw [← ha.2.2.2.1] at this
          rw [e, ← ha.2.2.2.1]; exact this
        | false =>
          rw [hl, cond_false, hown, cond_true] at hf
          have e : r.hp = s.hp ++ [AObj.arr te.size len (fz len (rowsOf te.size cs))] := (setd_some hf).1
          refine ⟨.sl s.hp.length 0 len, fun s' ha => ?_, by rw [e]; exact hf⟩
          simp only [opf, ho, opBuildSlice, hts, Option.bind_some, hk, hte, hb, cond_true, hev s' ha, hcs, hfr, hl, cond_false, hown]
          rw [ha.2.2.2.1, e]
          exact yh_of0 hf ha.1 ha.2.1
  | _ => rw [hk] at hf; cases hf

theorem eff_append {o : Oper} {c : Call} {t t' : TypeId} {x y : Operand} (ho : o.op = .call c) (hc1 : c.callee = .builtin .append) (hc2 : c.args.toList = [x, y]) (hc3 : c.argTypes.toList = [t, t']) (hown : own (o.dst.getD 0) = true) {r : St} (hf : opf T own o s = some r) (hc : r.cond) :
    ∃ v, EffOk T own ops o s v r.hp ∧ ({ s with hp := r.hp } : St).setd o.dst v = some { r with cond := s.cond } := by
  have eopf : ∀ s : St, opf T own o s = opAppend T own s o.dst t t' (s.ev x) (s.ev y) := fun s => by simp only [opf, ho, hc1, hc2, hc3]
  rw [eopf] at hf
  simp only [opAppend, Option.bind_eq_some_iff] at hf
  obtain ⟨ts, hts, hf⟩ := hf
  have hop : ∀ z ∈ c.args.toList, z ∈ o.op.operands := fun z hz => by rw [ho]; simp [Op.operands, Call.operands]; exact .inr (by simpa using hz)
  have h1 : ∀ s', AgreeE ops o s s' → s'.ev x = s.ev x := fun s' ha => ev_agree ha.2.2.1 (hop x (by simp [hc2]))
  have h2 : ∀ s', AgreeE ops o s s' → s'.ev y = s.ev y := fun s' ha => ev_agree ha.2.2.1 (hop y (by simp [hc2]))
  have hrows : ∀ s', AgreeE ops o s s' → ∀ v, s'.rows v = s.rows v := fun s' ha v => by cases v <;> simp only [St.rows, ha.2.2.2.1]
  cases hk : ts.kind with
  | slice e =>
    rw [hk] at hf
    simp only [Option.bind_eq_some_iff] at hf
    obtain ⟨te, hte, hf⟩ := hf
    cases hb : (Nat.ble 1 te.size && Nat.beq t t') with
    | false => rw [hb] at hf; cases hf
    | true =>
      rw [hb, cond_true] at hf
      simp only [Option.bind_eq_some_iff] at hf
      obtain ⟨src, hsrc, hf⟩ := hf
      have core : ∀ {H : List AObj} {p : Prop} {v : AV}, (({ s with hp := H } : St).need p).setd o.dst v = some r →
          (∀ s', AgreeE ops o s s' → opf T own o s' = (({ s' with hp := H } : St).need p).setd o.dst v) → ∃ v, EffOk T own ops o s v r.hp ∧ ({ s with hp := r.hp } : St).setd o.dst v = some { r with cond := s.cond } := by
        intro H p v hf hs
        have e : r.hp = H := (setd_some hf).1
        refine ⟨v, fun s' ha => ?_, by have := set_of_need hf; rw [e] at this ⊢; exact this⟩
        rw [hs s' ha, e]
        exact yh_of hf hc ha.1 ha.2.1
      cases hx : s.ev x with
      | nilsl =>
        rw [hx] at hf
        rw [hown, cond_true] at hf
        refine core hf fun s' ha => ?_
        rw [eopf]
        simp only [opAppend, hts, Option.bind_some, hk, hte, hb, cond_true, h1 s' ha, h2 s' ha, hrows s' ha, hsrc, hx, hown]
        rw [ha.2.2.2.1]
      | zsl =>
        rw [hx] at hf
        rw [hown, cond_true] at hf
        refine core hf fun s' ha => ?_
        rw [eopf]
        simp only [opAppend, hts, Option.bind_some, hk, hte, hb, cond_true, h1 s' ha, h2 s' ha, hrows s' ha, hsrc, hx, hown]
        rw [ha.2.2.2.1]
      | sl id b n =>
        rw [hx] at hf
        simp only at hf
        cases hid : s.hp[id]? with
        | none => rw [hid] at hf; cases hf
        | some ob =>
          cases ob with
          | arr sz m row =>
            rw [hid] at hf
            simp only at hf
            cases hb2 : (Nat.beq sz te.size && Nat.ble s.base id) with
            | false => rw [hb2] at hf; cases hf
            | true =>
              rw [hb2, cond_true] at hf
              refine core hf fun s' ha => ?_
              rw [eopf]
              simp only [opAppend, hts, Option.bind_some, hk, hte, hb, cond_true, h1 s' ha, h2 s' ha, hrows s' ha, hsrc, hx, ha.2.2.2.1, ha.2.2.2.2, hid, hb2]
          | _ => rw [hid] at hf; cases hf
      | _ => rw [hx] at hf; cases hf
  | _ => rw [hk] at hf; cases hf

/-- An operation that makes an object. -/
theorem regI_eff {i : Nat} {is : List Nat} {o : Oper} {r : St} (ho : ops[i]? = some o) (hv : valKind own o = false) (he : effKind own o = true) (hp : isPure o = true) (hg : guardA ops s o = some true) (hf : opf T own o s = some r) (hc : r.cond) (hsc : s.cond = True)
    (hR : ∀ id ∈ R, r.hp[id]? = s.hp[id]?) (hk : regI P T own ops R K is { r with cond := True }) : regI P T own ops R K (i :: is) s := by
  have main : ∃ v, EffOk T own ops o s v r.hp ∧ ({ s with hp := r.hp } : St).setd o.dst v = some { r with cond := s.cond } := by
    have same : r.cond = s.cond → { r with cond := s.cond } = r := fun e => by rw [← e]
    unfold effKind at he
    split at he
    · rename_i t hop
      obtain ⟨v, h1, h2⟩ := eff_alloc (ops := ops) hop hf
      exact ⟨v, h1, by rw [same (by have := (setd_some h2).2.1; exact this)]; exact h2⟩
    · rename_i t x hop
      obtain ⟨v, h1, h2⟩ := eff_box (ops := ops) hop hf
      exact ⟨v, h1, by rw [same (by have := (setd_some h2).2.1; exact this)]; exact h2⟩
    · rename_i t x y hop
      exact eff_makeSlice hop hf hc
    · rename_i t n ps hop
      obtain ⟨v, h1, h2⟩ := eff_buildSlice (ops := ops) hop he hf
      exact ⟨v, h1, by rw [same (by have := (setd_some h2).2.1; exact this)]; exact h2⟩
    · rename_i c hop
      split at he
      · rename_i hca
        have hargs : ∃ x y t t', c.args.toList = [x, y] ∧ c.argTypes.toList = [t, t'] := by
          simp only [opf, hop, hca] at hf
          split at hf
          · rename_i q1 q2 q3; exact absurd q1 (by simp)
          · rename_i h2 h3; exact ⟨_, _, _, _, h2, h3⟩
          · rename_i q1 q2 q3; exact absurd q1 (by simp)
          · cases hf
        obtain ⟨x, y, t, t', h2, h3⟩ := hargs
        exact eff_append hop hca h2 h3 he hf hc
      · rename_i f hca
        simp only [isPure, hop, hca] at hp
        cases hp
      · cases he
    · cases he
  obtain ⟨v, h1, h2⟩ := main
  refine ⟨o, ho, .inr (.inl ⟨hv, he, v, r.hp, _, fun s' ha => ⟨true, by rw [guard_agree ha.2.2.1]; exact hg, ?_⟩, hR, h2, by rw [hsc]; exact hk⟩)⟩
  rw [if_pos rfl]
  unfold Yo
  split
  · rename_i c hop
    split
    · rename_i f hca; simp only [isPure, hop, hca] at hp; cases hp
    · exact h1 s' ha
  · exact h1 s' ha
end
end Go.Av

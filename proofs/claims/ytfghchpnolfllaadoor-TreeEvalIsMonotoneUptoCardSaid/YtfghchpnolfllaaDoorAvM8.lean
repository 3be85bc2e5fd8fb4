/- The Av framework: codecs of lists of rows. No law is proved here. -/
import Derived.Test.YtfghchpnolfllaaDoorAvM7
set_option linter.unusedSimpArgs false
set_option linter.unusedVariables false
set_option linter.unusedSectionVars false
namespace Go.Av
open Go.ChangeShapes Go.RowKit

section
variable {P : Program} {n : Nat} {t e : TypeId} {α β : Type}

def kB : Cod Bool := ⟨cB, fun _ => 1, fun _ => True⟩
def kI (k : IntKind) : Cod Int := ⟨cI k, fun _ => 1, fun n => (Lit.int k n).wf = true⟩
def kS : Cod Str := ⟨cS, fun s => s.size + 1, fun _ => True⟩
def kL (c : Cod α) : Cod (List α) := ⟨fun l => [aL c.cells l], fun l => (l.map c.sz).sum + 1, fun l => ∀ a ∈ l, c.ok a⟩

theorem o_kB (ht : P.underlying t = some .bool) : Opens P n t kB := (opens_bool ht).map kB (fun b => b) (fun _ _ => trivial) (fun _ => Nat.le_refl _) (fun _ => rfl)
theorem o_kI {k : IntKind} (ht : P.underlying t = some (.int k)) : Opens P n t (kI k) := (opens_int ht).map (kI k) (fun b => b) (fun _ h => h) (fun _ => Nat.le_refl _) (fun _ => rfl)
theorem o_kS (ht : P.underlying t = some .string) : Opens P n t kS := (opens_str ht).map kS (fun b => b) (fun _ _ => trivial) (fun _ => Nat.le_refl _) (fun _ => rfl)

theorem RowRep.list {w : World} {m : Nat} {row row' : Nat → List AV} {cs : List Value} (h : RowRep w [.list m row] cs) (hr : ∀ i, i < m → row i = row' i) : RowRep w [.list m row'] cs := by
  refine ⟨h.1, fun j c hj => ?_⟩
  cases j with
  | zero =>
    simp at hj; subst hj
    have := h.2 0 _ rfl
    exact ⟨rfl, RepF.congr this.2 hr⟩
  | succ j => simp at hj

theorem o_kL [Inhabited α] {c : Cod α} {k : Nat} (ht : P.underlying t = some (.slice e)) (hk : P.cellsOf e = k + 1) (hsz : ∀ a, (c.cells a).length = k + 1) (he : ∀ n, Opens P n e c) (n : Nat) : Opens P n t (kL c) := by
  revert n
  refine opens_any fun n => ?_
  constructor
  intro H enc B hB w base spare held fuel cs x hn hx
  obtain ⟨l, h1, h2, h3⟩ := (opens_slice' ht hk hsz (he n)).go hB hn hx
  refine ⟨l, h1, h2, h3.list fun i hi => ?_⟩
  simp [rw, List.getD, List.getElem?_map, List.getElem?_eq_getElem hi]

theorem kL_len {c : Cod α} (h : ∀ a, 1 ≤ c.sz a) (l : List α) : l.length ≤ (kL c).sz l := by
  show l.length ≤ (l.map c.sz).sum + 1
  induction l with
  | nil => simp
  | cons a l ih => have := h a; simp at ih ⊢; omega
end
end Go.Av

namespace Go.Av

/-- A function's contract: at these arguments and objects it ends with this result and these objects. -/
structure ConH (P : Program) (G : List (Nat × AV)) (f : FuncId) (args : List AV) (H : List AObj) (r : AV) (H' : List AObj) : Prop where
  fn : Fn P f
  calls : CallsA P G f args H fun r' H'' => r' = r ∧ H'' = H'

/-- References that stay as they are. -/
def idL (n : Nat) : List (Option Nat) := (List.range n).map some

theorem Con.toH {P : Program} {G : List (Nat × AV)} {f : FuncId} {args : List AV} {r : AV} {H' : List AObj} (h : Con P G f args r H') : ConH P G f args [] r H' := ⟨h.fn, h.calls⟩
theorem ConH.toC {P : Program} {G : List (Nat × AV)} {f : FuncId} {args : List AV} {r : AV} {H' : List AObj} (h : ConH P G f args [] r H') : Con P G f args r H' := ⟨h.fn, h.calls⟩

theorem idL_get {n i : Nat} : (idL n)[i]? = (if i < n then some (some i) else none) := by
  unfold idL
  by_cases h : i < n
  · rw [if_pos h, List.getElem?_map, List.getElem?_range h]; rfl
  · rw [if_neg h]; exact List.getElem?_eq_none (by simp; omega)

/-- A state restated: the objects that were handed in stay where they are. -/
def lowB (base : Nat) (L : List (Option Nat)) : Bool := (List.range base).all fun i => match L[i]? with | some (some j) => Nat.beq j i | _ => false

theorem lowB_ok {base : Nat} {L : List (Option Nat)} (h : lowB base L = true) : base ≤ L.length ∧ ∀ i : Nat, i < base → L[i]? = some (some i) := by
  have hk : ∀ i : Nat, i < base → L[i]? = some (some i) := fun i hi => by
    have := List.all_eq_true.1 h i (List.mem_range.2 hi)
    split at this
    · rename_i j hj; rw [hj, Nat.eq_of_beq_eq_true this]
    · cases this
  refine ⟨?_, hk⟩
  cases base with
  | zero => omega
  | succ b => have := get_lt (hk b (by omega)); omega

/-- References that are used twice are used once alone by what lives. -/
def deadB : AObj → Bool
  | .dead => true
  | _ => false

def injB : List (Option Nat) → List AObj → Bool
  | [], _ => true
  | a :: L, hp => (match a with
      | none => true
      | some i => deadB (hp.headD .dead) || (List.range L.length).all fun k => (match L[k]? with | some (some j) => !(Nat.beq j i) || deadB (hp.tail.getD k .dead) | _ => true)) && injB L hp.tail

theorem deadB_live {o : AObj} (h : deadB o = true) : o = .dead := by cases o <;> first | rfl | cases h

theorem injB_ok : ∀ {L : List (Option Nat)} {hp : List AObj}, injB L hp = true → ∀ (i j id : Nat), L[i]? = some (some id) → L[j]? = some (some id) → Live hp i → Live hp j → i = j
  | [], hp, _, i, j, id, hi, _, _, _ => by simp at hi
  | a :: L, hp, h, i, j, id, hi, hj, li, lj => by
    have h : (_ && injB L hp.tail) = true := h
    rw [Bool.and_eq_true] at h
    have tl : ∀ {k : Nat}, Live hp (k + 1) → Live hp.tail k := fun {k} ⟨o, ho, hn⟩ => ⟨o, by rw [List.getElem?_tail]; exact ho, hn⟩
    have key : ∀ {k : Nat}, a = some id → L[k]? = some (some id) → Live hp 0 → Live hp (k + 1) → False := fun {k} ha hk l0 lk => by
      subst ha
      have h1 := h.1
      simp only [Bool.or_eq_true] at h1
      rcases h1 with h1 | h1
      · obtain ⟨o, ho, hn⟩ := l0
        have : hp.headD .dead = o := by cases hp <;> simp_all
        rw [this] at h1; exact hn (deadB_live h1)
      · have := List.all_eq_true.1 h1 k (List.mem_range.2 (get_lt hk))
        rw [hk] at this
        simp only [Nat.beq_refl, Bool.not_true, Bool.false_or] at this
        obtain ⟨o, ho, hn⟩ := tl lk
        rw [List.getD, ho] at this
        exact hn (deadB_live this)
    cases i with
    | zero =>
      cases j with
      | zero => rfl
      | succ j => exact (key (by simpa using hi) (by simpa using hj) li lj).elim
    | succ i =>
      cases j with
      | zero => exact (key (by simpa using hj) (by simpa using hi) lj li).elim
      | succ j => rw [injB_ok h.2 i j id (by simpa using hi) (by simpa using hj) (tl li) (tl lj)]

theorem relocH_mk {base : Nat} {hp hp' : List AObj} {L : List (Option Nat)} (hlen : hp'.length = L.length) (hlow : lowB base L = true) (hinj : injB L hp' = true) (hobj : ObjsLe hp L base 0 hp') : RelocH L base hp hp' :=
  ⟨hlen, (lowB_ok hlow).1, (lowB_ok hlow).2, injB_ok hinj, fun i o ho => by have := hobj.get i o ho; rwa [Nat.zero_add] at this⟩

/-- Restating with the references' places given. -/
def RelocL (L : List (Option Nat)) (s s' : St) : Prop := Reloc s s'

theorem RelocL.mk {s : St} {L : List (Option Nat)} {ch' : List (Nat × AV)} {hp' : List AObj} {b n : Nat} {c : Prop} {gl : List (Nat × AV)} (hb : b = s.base) (hn : n = s.n) (hgl : gl = s.gl) (hlen : hp'.length = L.length) (hlow : lowB s.base L = true) (hinj : injB L hp' = true)
    (hobj : ObjsLe s.hp L s.base 0 hp') (hch : ChLe s.hp L s.base s.ch ch') : RelocL L s { ch := ch', hp := hp', base := b, n := n, cond := c, gl := gl } :=
  ⟨hb, ⟨hn, hgl⟩, L, relocH_mk hlen hlow hinj hobj, look_le fun p hp => hch.mem p hp⟩

theorem AvLe.frz3 {hp : List AObj} {L : List (Option Nat)} {base id b n n' sz m : Nat} {row row' : Nat → List AV} (h : hp[id]? = some (.arr sz m row)) (hL : some id ∉ L) (hb : base ≤ id) (hn' : n' = n) (hn : b + n ≤ m) (hr : ∀ i, i < n → row (b + i) = row' i) : AvLe hp L base (.sl id b n) (.list n' row') := by
  subst hn'
  exact .frz id b n' sz m row row' h hb hL hn hr

theorem AvLe.closs {hp : List AObj} {L : List (Option Nat)} {base : Nat} {f : FuncId} {a c a' c' : List AV} (h1 : All2 (AvLe hp L base) a a') (h2 : All2 (AvLe hp L base) c c') : AvLe hp L base (.clos f a c) (.clos f a' c') := .clos f a c a' c' h1.len h2.len h1.get h2.get

theorem ObjLe.siter2 {hp : List AObj} {L : List (Option Nat)} {base i id p p' : Nat} {b b' : ByteArray} (h1 : L[i]? = some (some id)) (h2 : hp[id]? = some (.siter b p)) (hb : b' = b) (h : p' = p) : ObjLe hp L base i (.siter b' p') := by
  subst hb; subst h; exact ⟨id, h1, h2⟩

theorem ObjLe.var0 {hp : List AObj} {L : List (Option Nat)} {base i id : Nat} {cs cs' : List AV} (h1 : L[i]? = some (some id)) (h2 : hp[id]? = some (.var cs)) (hf : cs'.all isCell = true) (hc : All2 (AvLe hp L base) cs cs') : ObjLe hp L base i (.var cs') := ObjLe.var' h1 h2 hc hf

section
variable {P : Program} {X : Ctx} {T : TT} {own : Nat → Bool}

theorem conH_of (hT : TTOk P T) {f : FuncId} {fn : Func} {c : Code} (hf : P.funcs[f]? = some fn) (hb : fn.body = some c) {n : Nat} (hn : fn.ntmps = n) {rs : List ResultVar} (hrs : fn.results.toList = rs)
    (hname : (fn.name == "runtime.NumGoroutine") = false) {args : List AV} {G : List (Nat × AV)} {H : List AObj} {r : AV} {H' : List AObj} (hlen : args.length ≤ n) {ch : List (Nat × AV)} (hch : argsCh 0 args = ch) {k : Nat} (hk : H.length = k)
    (h : Wp P X0 c (endQ T rs k fun r' H'' => r' = r ∧ H'' = H') { ch := ch, hp := H, base := k, n := n, cond := True, gl := G }) : ConH P G f args H r H' := by
  subst hch; subst hk
  exact ⟨⟨fn, hf, by rw [hb]; rfl, by simpa using hname⟩, callsA_of hT hf hb hn hrs hlen h⟩

theorem endQ_retH {rs : List ResultVar} {s : St} {k : Nat} {v r : AV} {hp' H' : List AObj} {r' : AV} (L : List (Option Nat)) (hv : resA T s rs = some v) (hl : RelocH L k s.hp hp') (hle : AvLe s.hp L k v r') (e1 : r' = r) (e2 : hp' = H') : endQ T rs k (fun r' H'' => r' = r ∧ H'' = H') .ret s :=
  ⟨.inr rfl, v, hv, L, r', hp', hl, hle, e1, e2⟩

/-- The arguments and the objects of a contract, restated. -/
theorem ConH.args {G : List (Nat × AV)} {f : FuncId} {args args' : List AV} {H H0 : List AObj} {r : AV} {H' : List AObj} (h : ConH P G f args H r H') (hH : RelocH (idL H0.length) H0.length H0 H) (ha : All2 (AvLe H0 (idL H0.length) H0.length) args' args) : ConH P G f args' H0 r H' := by
  refine ⟨h.fn, fun E w vals hh hg hv => ?_⟩
  have hh' := reloc_heap hh hH
  have hl : H.length = H0.length := by rw [hH.len]; simp [idL]
  have hv' : ArgsRep (renv E (idL H0.length) H0.length H0 H) w args vals := ⟨by have := ha.len; have := hv.1; omega, fun i c hc => by
    have hi : i < args'.length := by have := ha.len; have := get_lt hc; omega
    exact reloc_rep hh hH (ha.get i _ c (List.getElem?_eq_getElem hi) hc) (hv.2 i _ (List.getElem?_eq_getElem hi))⟩
  have hown : ∀ b, Owned (renv E (idL H0.length) H0.length H0 H) H b → Owned E H0 b := fun b ⟨id, hv, hb⟩ => by
    obtain ⟨id', _, g2, g3⟩ := reloc_blk hH hv hb
    exact ⟨id', g2, g3⟩
  have hF : ∀ b, (renv E (idL H0.length) H0.length H0 H).F b → E.F b := fun b hb => by
    rcases hb with hb | ⟨id, h1, h2, h3, _⟩
    · exact hb
    · have := live_lt h2; omega
  have hk : ∀ id, id < H0.length → kept (idL H0.length) id = some id := fun id hi => kept_some (by rw [idL_get, if_pos hi])
  refine (h.calls _ w vals hh' (hg.mono fun _ hb => .inl hb) hv').mono fun e w' he => ?_
  cases e with
  | returned x =>
    obtain ⟨r', H'', E', hK, hr, haf⟩ := he
    refine ⟨r', H'', E', hK, hr, haf.heap, ?_, fun b hb => haf.F b (.inl hb), fun b hb => ?_, by rw [← hl]; exact haf.len, fun id hi => ?_, fun id b hi hv hb => ?_⟩
    · exact ⟨haf.keeps.os, haf.keeps.tape, haf.keeps.output, haf.keeps.size, fun b hb hn => haf.keeps.block b hb (fun ho => hn (hown b ho)), haf.keeps.frz⟩
    · rcases haf.Fnew b hb with g | g | g
      · exact .inl (hF b g)
      · exact .inr (.inl g)
      · exact .inr (.inr (hown b g))
    · obtain ⟨a1, a2, a3, a4, a5⟩ := haf.old id (by omega)
      refine ⟨fun hv => ?_, by rw [a2]; simp only [renv, hk id hi]; rfl, by rw [a3]; simp only [renv, hk id hi], by rw [a4]; simp only [renv, hk id hi], by rw [a5]; simp only [renv, hk id hi]⟩
      rcases reloc_live hH (a1 hv) with g | ⟨id', g, q⟩
      · rw [idL_get, if_pos hi] at g; cases g
      · rw [idL_get, if_pos hi] at g; cases g; exact q
    · rcases haf.new id b (by omega) hv hb with g | g
      · exact .inl g
      · exact .inr (hown b g)
  | _ => exact he

/-- A call within a region that hands objects on. -/
theorem regv_callH {ops : Array Oper} {o : Oper} {os : List Oper} {K : St → Prop} {s s' : St} {c : Call} {f : Operand} {g : FuncId} {ags : List AV} {p1 : List AV} {p : List AV × Prop × Bool} {H H' : List AObj} {r : AV} (I : List Nat)
    (hc : ConH P s.gl g p1 H r H') (ho : o.op = .call c) (hcal : c.callee = .value f) (hg : guardA ops s o = some true) (hcl : calleeA s f c.args.toList = some (g, ags)) (hI : nodupB I = true) (hcd : closedB I s.hp = true)
    (hp : argsH I s.hp ags = some p) (hH : (passed I s.hp = H ∧ p.1 = p1) ∨ (RelocH (idL (passed I s.hp).length) (passed I s.hp).length (passed I s.hp) H ∧ All2 (AvLe (passed I s.hp) (idL (passed I s.hp).length) (passed I s.hp).length) p.1 p1)) (hpc : p.2.1)
    (hl : p.2.2 = true → isLocT r = true ∧ ∀ o ∈ H', LocObj o) (hs : ({ s with hp := putBack I s.hp H', cond := True } : St).setd o.dst (mapT (bid I s.hp.length) r) = some s') (hk : regv P T own ops os K s') : regv P T own ops (o :: os) K s := by
  have hc' : ConH P s.gl g p.1 (passed I s.hp) r H' := by
    rcases hH with ⟨e1, e2⟩ | ⟨e1, e2⟩
    · rw [e1, e2]; exact hc
    · exact hc.args e1 e2
  refine regv_op hg ?_
  unfold opv
  rw [ho]
  simp only
  rw [hcal]
  simp only
  exact ⟨(g, ags), hcl, .inr ⟨I, hc'.fn, hI, hcd, p, hp, hpc, hc'.calls.mono fun r' H'' ⟨h1, h2⟩ => by subst h1; subst h2; exact ⟨hl, s', hs, hk⟩⟩⟩

/-- .. in a region whose order is drawn: what stands ahead of it and behind it is bound to. -/
theorem regI_callH {B R : List Nat} {ops : Array Oper} {i : Nat} {is : List Nat} {o : Oper} {K : St → Prop} {s s' : St} {c : Call} {f : Operand} {g : FuncId} {ags : List AV} {p1 : List AV} {p : List AV × Prop × Bool} {H H' : List AObj} {r : AV} (I : List Nat)
    (hc : ConH P s.gl g p1 H r H') (hoi : ops[i]? = some o) (hv : valKind own o = false) (he : effKind own o = false) (hsl : slotKind own o = false) (hgd : o.guard = none) (ho : o.op = .call c) (hcal : c.callee = .value f) (hcl : calleeA s f c.args.toList = some (g, ags)) (hI : nodupB I = true) (hcd : closedB I s.hp = true)
    (hp : argsH I s.hp ags = some p) (hH : (passed I s.hp = H ∧ p.1 = p1) ∨ (RelocH (idL (passed I s.hp).length) (passed I s.hp).length (passed I s.hp) H ∧ All2 (AvLe (passed I s.hp) (idL (passed I s.hp).length) (passed I s.hp).length) p.1 p1)) (hpc : p.2.1)
    (hl : p.2.2 = true → isLocT r = true ∧ ∀ o ∈ H', LocObj o) (hs : ({ s with hp := putBack I s.hp H', cond := True } : St).setd o.dst (mapT (bid I s.hp.length) r) = some s') (hcn : s'.cond) (hk : regI P T own ops B R K is s') : regI P T own ops B R K (i :: is) s := by
  have hc' : ConH P s.gl g p.1 (passed I s.hp) r H' := by
    rcases hH with ⟨e1, e2⟩ | ⟨e1, e2⟩
    · rw [e1, e2]; exact hc
    · exact hc.args e1 e2
  refine ⟨o, hoi, .inr (.inr (.inl ⟨hv, he, hsl, hgd, fun c hc => by (rw [ho] at hc; cases hc), fun E0 H0 w0 E a w N Q hm hn => ?_⟩))⟩
  exact callvH_sound hm ho hcal hcl (I := I) (K := fun s' => s'.cond ∧ regI P T own ops B R K is s') ⟨hc'.fn, hI, hcd, p, hp, hpc, hc'.calls.mono fun r' H'' ⟨h1, h2⟩ => by subst h1; subst h2; exact ⟨hl, s', hs, hcn, hk⟩⟩ hn

/-- What comes back as it was handed on. -/
def leafB : AV → Bool
  | .agg _ | .tup _ | .clos _ _ _ => false
  | _ => true
def rtC : AV → Bool
  | .agg _ | .tup _ => false
  | .clos _ a b => a.all leafB && b.all leafB
  | _ => true
def rtB : AObj → Bool
  | .var cs => cs.all rtC
  | _ => true

theorem bid_rid {I : List Nat} {n i : Nat} (h : i ∈ I) : bid I n (rid I i) = i := bid_lt (rid_get h)
theorem map0_rt {I : List Nat} {n : Nat} {v : AV} (h : ∀ i ∈ ids0 v, i ∈ I) (hl : leafB v = true) : map0 (bid I n) (map0 (rid I) v) = v := by
  cases v <;> first | rfl | (simp only [map0]; rw [bid_rid (h _ (by simp [ids0]))]) | cases hl
theorem mapC_rt {I : List Nat} {n : Nat} {v : AV} (h : ∀ i ∈ idsC v, i ∈ I) (hl : rtC v = true) : mapC (bid I n) (mapC (rid I) v) = v := by
  cases v with
  | clos f a b =>
    have hl : (a.all leafB && b.all leafB) = true := hl
    rw [Bool.and_eq_true] at hl
    have h : ∀ i ∈ a.flatMap ids0 ++ b.flatMap ids0, i ∈ I := h
    have go : ∀ l : List AV, l.all leafB = true → (∀ i ∈ l.flatMap ids0, i ∈ I) → (l.map (map0 (rid I))).map (map0 (bid I n)) = l := fun l hl hi => by
      rw [List.map_map]
      refine (List.map_congr_left fun c hc => ?_).trans (List.map_id _)
      exact map0_rt (fun i hi' => hi i (by simp only [List.mem_flatMap]; exact ⟨c, hc, hi'⟩)) (List.all_eq_true.1 hl c hc)
    simp only [mapC]
    rw [go a hl.1 (fun i hi => h i (by simp only [List.mem_append]; exact .inl hi)), go b hl.2 (fun i hi => h i (by simp only [List.mem_append]; exact .inr hi))]
  | agg => cases hl
  | tup => cases hl
  | _ => first | rfl | (simp only [mapC, map0]; rw [bid_rid (h _ (by simp [idsC, ids0]))])
theorem objMap_rt {I : List Nat} {n : Nat} {o : AObj} (h : ∀ i ∈ objIds o, i ∈ I) (hl : rtB o = true) : objMap (bid I n) (objMap (rid I) o) = o := by
  cases o with
  | var cs =>
    have h : ∀ i ∈ cs.flatMap idsC, i ∈ I := h
    simp only [objMap, List.map_map]
    congr 1
    refine (List.map_congr_left fun c hc => ?_).trans (List.map_id _)
    exact mapC_rt (fun i hi => h i (by simp only [List.mem_flatMap]; exact ⟨c, hc, hi⟩)) (List.all_eq_true.1 hl c hc)
  | _ => rfl

theorem putAt_self : ∀ (I : List Nat) (hp os : List AObj), os.length = I.length → (∀ (j i : Nat), I[j]? = some i → ∃ o, os[j]? = some o ∧ hp[i]? = some o) → putAt hp I os = hp
  | [], hp, os, hl, _ => by
    have : os = [] := List.eq_nil_of_length_eq_zero hl
    subst this; simp [putAt]
  | i :: I, hp, [], hl, _ => by simp at hl
  | i :: I, hp, o :: os, hl, h => by
    obtain ⟨o', e1, e2⟩ := h 0 i rfl
    simp only [List.getElem?_cons_zero, Option.some.injEq] at e1
    subst e1
    simp only [putAt]
    rw [set_self e2]
    exact putAt_self I hp os (by simpa using hl) fun j i' hj => by simpa using h (j + 1) i' (by simpa using hj)

theorem putBack_self {I : List Nat} {hp : List AObj} (hc : closedB I hp = true) (hr : I.all (fun i => rtB (hp.getD i .dead)) = true) : putBack I hp (passed I hp) = hp := by
  refine putAt_self I hp _ (by simp [passed]) fun j i hj => ?_
  have hm := List.mem_of_getElem? hj
  have h1 := List.all_eq_true.1 hc i hm
  rw [Bool.and_eq_true] at h1
  have hlt : i < hp.length := by simpa [Nat.blt, Nat.succ_le_iff] using h1.1
  have he : hp.getD i .dead = hp[i] := by simp [List.getD, hlt]
  have h2 := List.all_eq_true.1 hr i hm
  simp only [he] at h2
  rw [he] at h1
  refine ⟨hp[i], ?_, List.getElem?_eq_getElem hlt⟩
  simp only [passed, List.map_map, List.getElem?_map, hj, Option.map_some, Function.comp, he]
  rw [objMap_rt (fun k hk => memB_mem.1 (List.all_eq_true.1 h1.2 k hk)) h2]

theorem blt_of_get {hp : List AObj} {i : Nat} {o : AObj} (h : hp[i]? = some o) : Nat.blt i hp.length = true := by
  have := get_lt h
  simpa [Nat.blt, Nat.succ_le_iff] using this

theorem closedB_same {I : List Nat} {hp hp' : List AObj} (h : ∀ i ∈ I, hp'[i]? = hp[i]?) : closedB I hp = true → closedB I hp' = true := by
  intro hc
  refine List.all_eq_true.2 fun i hi => ?_
  have h1 := List.all_eq_true.1 hc i hi
  rw [Bool.and_eq_true] at h1 ⊢
  have hlt : i < hp.length := by simpa [Nat.blt, Nat.succ_le_iff] using h1.1
  have hg := List.getElem?_eq_getElem hlt
  refine ⟨blt_of_get ((h i hi).trans hg), ?_⟩
  rw [List.getD, h i hi]; exact h1.2

theorem passed_same {I : List Nat} {hp hp' : List AObj} (h : ∀ i ∈ I, hp'[i]? = hp[i]?) : passed I hp' = passed I hp :=
  List.map_congr_left fun i hi => by simp only [List.getD, h i hi]

theorem argsH_same {I : List Nat} {hp hp' : List AObj} : ∀ (vs : List AV), (∀ v ∈ vs, ∀ id ∈ refsD v, hp'[id]? = hp[id]?) → argsH I hp' vs = argsH I hp vs := by
  have h0 : ∀ v, (∀ id ∈ refs v, hp'[id]? = hp[id]?) → argH0 I hp' v = argH0 I hp v := by
    intro v hv
    cases v <;> first | rfl | (simp only [argH0]; rw [hv _ (by simp [refs])])
  have h1 : ∀ vs : List AV, (∀ v ∈ vs, ∀ id ∈ refs v, hp'[id]? = hp[id]?) → argsH0 I hp' vs = argsH0 I hp vs := by
    intro vs
    induction vs with
    | nil => intro _; rfl
    | cons v vs ih =>
      intro hv
      simp only [argsH0]
      rw [h0 v (hv v (by simp)), ih (fun u hu => hv u (by simp [hu]))]
  have h2 : ∀ v, (∀ id ∈ refsD v, hp'[id]? = hp[id]?) → argH I hp' v = argH I hp v := by
    intro v hv
    cases v with
    | agg cs =>
      simp only [argH]
      rw [h1 cs (fun u hu id hid => hv id (by simp only [refsD, List.mem_flatMap]; exact ⟨u, hu, hid⟩))]
    | clos f a c => rfl
    | _ => exact h0 _ (by simpa only [refsD] using hv)
  intro vs
  induction vs with
  | nil => intro _; rfl
  | cons v vs ih =>
    intro hv
    simp only [argsH]
    rw [h2 v (hv v (by simp)), ih (fun u hu => hv u (by simp [hu]))]

/-- A call that looks into the objects that it is handed and leaves them, in a region whose order is drawn. -/
theorem regI_callR {B R : List Nat} {ops : Array Oper} {i : Nat} {is : List Nat} {o : Oper} {K : St → Prop} {s s1 : St} {c : Call} {f : Operand} {g : FuncId} {ags : List AV} {p1 : List AV} {p : List AV × Prop × Bool} {H : List AObj} {r : AV} (I : List Nat)
    (hc : ConH P s.gl g p1 H r H) (hoi : ops[i]? = some o) (ho : o.op = .call c) (hcal : c.callee = .value f) (hg : guardA ops s o = some true) (hcl : calleeA s f c.args.toList = some (g, ags)) (hI : nodupB I = true) (hcd : closedB I s.hp = true) (hIR : ∀ i ∈ I, i ∈ R)
    (hp : argsH I s.hp ags = some p) (hw : ∀ v ∈ ags, ∀ id ∈ refsD v, id ∈ R) (hH : passed I s.hp = H ∧ p.1 = p1) (hrt : I.all (fun i => rtB (s.hp.getD i .dead)) = true) (hpc : p.2.1) (hsc : isScalar r = true)
    (hl : p.2.2 = true → ∀ o ∈ H, LocObj o) (hs : s.setd o.dst r = some s1) (hk : regI P T own ops B R K is s1) (hown : own (o.dst.getD 0) = false) : regI P T own ops B R K (i :: is) s := by
  have hv : valKind own o = true := by simp only [valKind, ho, hcal, hown]; rfl
  refine ⟨o, hoi, .inl ⟨hv, r, s1, fun s' ha => ⟨true, by rw [guard_agree ha.2.2.1]; exact hg, ?_⟩, hs, hk⟩⟩
  rw [if_pos rfl]
  have hsame : ∀ i ∈ I, s'.hp[i]? = s.hp[i]? := fun i hi => ha.2.2.2 i (hIR i hi)
  have hpas := passed_same hsame
  have hcl' : calleeA s' f c.args.toList = some (g, ags) := by
    rw [← hcl]
    unfold calleeA
    have hf : s'.ev f = s.ev f := ev_agree ha.1.2 ha.2.2.1 (by rw [ho]; simp [Op.operands, Call.operands, hcal])
    have hev : c.args.toList.map s'.ev = c.args.toList.map s.ev := List.map_congr_left fun x hx => ev_agree ha.1.2 ha.2.2.1 (by rw [ho]; simp [Op.operands, Call.operands]; exact .inr (by simpa using hx))
    rw [hf, hev]
  unfold Yo
  rw [ho]
  simp only
  rw [hcal]
  obtain ⟨e1, e2⟩ := hH
  refine .inr ⟨(g, ags), I, p, hcl', hc.fn, hI, closedB_same hsame hcd, (argsH_same ags fun v hv id hid => ha.2.2.2 id (hw v hv id hid)).trans hp, hpc, hsc, by trivial, ?_, ?_, ?_⟩
  · refine putBack_self (closedB_same hsame hcd) ?_
    refine List.all_eq_true.2 fun i hi => ?_
    have := List.all_eq_true.1 hrt i hi
    simp only [List.getD, hsame i hi] at this ⊢; exact this
  · rw [hpas, e1]; exact hl
  · rw [hpas, e1, e2, ha.1.2]; exact hc.calls
end
end Go.Av

namespace Go.Av

/-! ### the model's side: splits, guards, elements, names -/
section
variable {α β γ : Type} {G f : Prop} {r : β}

theorem sB {e : Bool} {A B : Option β} (h : (if e = true then A else B) = some r) (F : f) (h0 : e = false ∧ f → B = some r → G) (h1 : e = true ∧ f → A = some r → G) : G := by
  cases e with
  | true => exact h1 ⟨rfl, F⟩ (by simpa using h)
  | false => exact h0 ⟨rfl, F⟩ (by simpa using h)
theorem sD {p : Prop} [Decidable p] {A B : Option β} (h : (if decide p = true then A else B) = some r) (F : f) (h0 : ¬ p ∧ f → B = some r → G) (h1 : p ∧ f → A = some r → G) : G := by
  by_cases hp : p
  · exact h1 ⟨hp, F⟩ (by simpa [hp] using h)
  · exact h0 ⟨hp, F⟩ (by simpa [hp] using h)
theorem sE {p : Prop} [Decidable p] {A B : Option β} (h : (if decide p = true then A else B) = some r) (F : f) (h0 : ¬ p → ¬ p ∧ f → B = some r → G) (h1 : p → (p = True) ∧ f → A = some r → G) : G := by
  by_cases hp : p
  · exact h1 hp ⟨eq_true hp, F⟩ (by simpa [hp] using h)
  · exact h0 hp ⟨hp, F⟩ (by simpa [hp] using h)
theorem sDn {p : Prop} [Decidable p] {A B : Option β} (h : (if (!(decide p)) = true then A else B) = some r) (F : f) (h0 : p ∧ f → B = some r → G) (h1 : ¬ p ∧ f → A = some r → G) : G := by
  by_cases hp : p
  · exact h0 ⟨hp, F⟩ (by simpa [hp] using h)
  · exact h1 ⟨hp, F⟩ (by simpa [hp] using h)
theorem sEn {p : Prop} [Decidable p] {A B : Option β} (h : (if (!(decide p)) = true then A else B) = some r) (F : f) (h0 : p → (p = True) ∧ f → B = some r → G) (h1 : ¬ p → ¬ p ∧ f → A = some r → G) : G := by
  by_cases hp : p
  · exact h0 hp ⟨eq_true hp, F⟩ (by simpa [hp] using h)
  · exact h1 hp ⟨hp, F⟩ (by simpa [hp] using h)
theorem sP {p : Prop} [Decidable p] {A B : Option β} (h : (if p then A else B) = some r) (F : f) (h1 : p ∧ f → A = some r → G) (h0 : ¬ p ∧ f → B = some r → G) : G := by
  by_cases hp : p
  · exact h1 ⟨hp, F⟩ (by simpa [hp] using h)
  · exact h0 ⟨hp, F⟩ (by simpa [hp] using h)
theorem gd {p : Prop} [Decidable p] {o : Option β} (h : (if p then o else none) = some r) (F : f) (k : p ∧ f → o = some r → G) : G := let ⟨a, b⟩ := oguard h; k ⟨a, F⟩ b
theorem eI {l : List α} {k : Int} {g : α → Option β} (h : (atI l k).bind g = some r) (F : f) (K : ∀ x, (0 ≤ k ∧ k < (l.length : Int) ∧ l[k.toNat]? = some x ∧ ∀ hq : k.toNat < l.length, l[k.toNat] = x) ∧ f → g x = some r → G) : G := by
  obtain ⟨x, hx, h⟩ := obind h
  obtain ⟨a, b, c⟩ := atI_some hx
  exact K x ⟨⟨a, b, c, getElem_of c⟩, F⟩ h
theorem eN {l : List α} {m : Nat} {g : α → Option β} (h : (atI l (m : Int)).bind g = some r) (F : f) (K : ∀ x, (m < l.length ∧ l[m]? = some x ∧ ∀ hq : m < l.length, l[m] = x) ∧ f → g x = some r → G) : G := by
  obtain ⟨x, hx, h⟩ := obind h
  obtain ⟨a, b, c⟩ := atI_some hx
  rw [Int.toNat_natCast] at c
  exact K x ⟨⟨by omega, c, getElem_of c⟩, F⟩ h
theorem eT {b : ByteArray} {k : Int} {g : UInt8 → Option β} (h : (atI b.data.toList k).bind g = some r) (F : f) (K : ∀ x, (0 ≤ k ∧ k < (b.size : Int) ∧ b.data[k.toNat]? = some x ∧ ∀ hq : k.toNat < b.data.size, b.data[k.toNat] = x) ∧ f → g x = some r → G) : G := by
  obtain ⟨x, hx, h⟩ := obind h
  obtain ⟨a, b, c⟩ := atI_byte hx
  rw [Array.getElem?_toList] at c
  exact K x ⟨⟨a, b, c, fun hq => by rw [Array.getElem?_eq_getElem hq] at c; simpa using c⟩, F⟩ h
theorem eTN {b : ByteArray} {m : Nat} {g : UInt8 → Option β} (h : (atI b.data.toList (m : Int)).bind g = some r) (F : f) (K : ∀ x, (m < b.size ∧ b.data[m]? = some x ∧ ∀ hq : m < b.data.size, b.data[m] = x) ∧ f → g x = some r → G) : G := by
  obtain ⟨x, hx, h⟩ := obind h
  obtain ⟨a, b, c⟩ := atI_byte hx
  rw [Array.getElem?_toList, Int.toNat_natCast] at c
  exact K x ⟨⟨by omega, c, fun hq => by rw [Array.getElem?_eq_getElem hq] at c; simpa using c⟩, F⟩ h
theorem nm {γ : Type} (c : α → γ) {e : List α} {g : List α → Option β} {M : List γ} {N : Nat} (h : ((some e).bind g) = some r) (F : f) (K : ∀ v, (M = List.map c v ∧ v.length = N) ∧ f → g v = some r → G)
    (hm : List.map c e = M := by first | (simp [F]; rfl) | rfl) (hn : e.length = N := by first | (simp [F]; rfl) | rfl) : G := by
  exact K e ⟨⟨hm.symm, hn⟩, F⟩ h
theorem nl {γ : Type} (c : α → γ) {e : List α} {g : List α → Option β} {M : List γ} {N : Nat} (h : ((some e).bind g) = some r) (F : f) (K : ∀ v, M = List.map c v → (v.length = N) ∧ f → g v = some r → G)
    (hm : List.map c e = M := by first | (simp [F]; rfl) | rfl) (hn : e.length = N := by first | (simp [F]; rfl) | rfl) : G := by
  exact K e hm.symm ⟨hn, F⟩ h
end

theorem ObjLe.raw' {hp : List AObj} {L : List (Option Nat)} {base i id : Nat} {o : Obj} (h1 : L[i]? = some (some id)) (h2 : hp[id]? = some (.raw o)) : ObjLe hp L base i (.raw o) := ⟨id, h1, h2⟩

/-! ### steps in a region -/
section
variable {P : Program} {X : Ctx} {T : TT} {own : Nat → Bool} {ops : Array Oper} {K : St → Prop} {s s1 : St} {o : Oper} {os : List Oper} {Q : Exit → St → Prop} {id : Nat} {c x y b : Code}

theorem rs (own : Nat → Bool) (h : regv P T own ops ops.toList (Wp P X b Q) s) (hT : TTOk P T := by exact tt_ok) : Wp P X (.seq (.region id ops false) b) Q s := Wp.reg_seq hT h
theorem rg (own : Nat → Bool) (h : regv P T own ops ops.toList (Q .normal) s) (hT : TTOk P T := by exact tt_ok) : Wp P X (.region id ops false) Q s := Wp.reg hT h
theorem rs0 (h : regv P T (fun _ => false) ops ops.toList (Wp P X b Q) s) (hT : TTOk P T := by exact tt_ok) : Wp P X (.seq (.region id ops false) b) Q s := Wp.reg_seq hT h
theorem rg0 (h : regv P T (fun _ => false) ops ops.toList (Q .normal) s) (hT : TTOk P T := by exact tt_ok) : Wp P X (.region id ops false) Q s := Wp.reg hT h

theorem vp (hk : regv P T own ops os K { s1 with cond := True }) (hp : isPure o = true := by rfl) (hg : guardA ops s o = some true := by rfl) (hf : opf T own o s = some s1 := by (simp [F]; rfl))
    (hc : s1.cond := by first | (simp [F]; done) | (simp [F]; omega) | (have hq := F; simp at hq; simp [F, hq]; done) | (have hq := F; simp at hq; simp [F, hq]; omega) | (have hq := F; simp at hq; omega)) : regv P T own ops (o :: os) K s := regv_pure hp hg hf hc hk
theorem vg (hk : regv P T own ops os K { s1 with cond := True }) (hp : isPure o = true := by rfl) (hg : guardA ops s o = some true := by first | (simp [F]; done) | (have hq := F; simp at hq; simp [F, hq]; done)) (hf : opf T own o s = some s1 := by (simp [F]; rfl))
    (hc : s1.cond := by first | (simp [F]; done) | (simp [F]; omega) | (have hq := F; simp at hq; simp [F, hq]; done) | (have hq := F; simp at hq; simp [F, hq]; omega) | (have hq := F; simp at hq; omega)) : regv P T own ops (o :: os) K s := regv_pure hp hg hf hc hk
theorem vs (hk : regv P T own ops os K s1) (hg : guardA ops s o = some false := by first | (simp [F]; done) | (have hq := F; simp at hq; simp [F, hq]; done)) (hf : s.setd o.dst (.tup []) = some s1 := by (simp [F]; rfl)) : regv P T own ops (o :: os) K s := regv_skip hg hf hk
theorem v1 {s' : St} {it : Operand} {b : ByteArray} {p k : Nat} (hk : regv P T own ops os K { s' with cond := True }) (ho : o.op = .next it true := by rfl) (hi : s.ev it = .hptr k 0 0 := by rfl) (hob : s.hp[k]? = some (.siter b p) := by rfl) (hlt : p < b.size := by first | (simp [F]; done) | (simp [F]; omega)) (hg : guardA ops s o = some true := by rfl)
    (hs : ({ s with hp := s.hp.set k (.siter b (p + (Utf8.decode b p).2)) } : St).setd o.dst (.tup [.bool true, .int .i64 (p : Int), .int .i32 ((Utf8.decode b p).1 : Int)]) = some s' := by (simp [F]; rfl)) : regv P T own ops (o :: os) K s := regv_next1 ho hi hob hlt hg hs hk
theorem v0 {s' : St} {it : Operand} {b : ByteArray} {p k : Nat} (hk : regv P T own ops os K { s' with cond := True }) (ho : o.op = .next it true := by rfl) (hi : s.ev it = .hptr k 0 0 := by rfl) (hob : s.hp[k]? = some (.siter b p) := by rfl) (hlt : ¬ p < b.size := by first | (simp [F]; done) | (simp [F]; omega)) (hg : guardA ops s o = some true := by rfl)
    (hs : s.setd o.dst (.tup [.bool false]) = some s' := by (simp [F]; rfl)) : regv P T own ops (o :: os) K s := regv_next0 ho hi hob hlt hg hs hk
theorem vn (h : K s) : regv P T own ops [] K s := h
theorem vr (L : List (Option Nat)) (s1 : St) (hk : regv P T own ops (o :: os) K s1) (hr : RelocL L s s1) : regv P T own ops (o :: os) K s := regv_reloc hr hk

/-- A call of a plain function. -/
theorem vc {s' : St} {cl : Call} {f : Operand} {g : FuncId} {ags : List AV} {p1 : List AV} {p : List AV × Prop × Bool} {r : AV} {H' : List AObj}
    (hc : Con P s.gl g p1 r H') (hk : regv P T own ops os K s') (hg : guardA ops s o = some true := by rfl) (ho : o.op = .call cl := by rfl) (hcal : cl.callee = .value f := by rfl) (hcl : calleeA s f cl.args.toList = some (g, ags) := by rfl) (hp : toArgs s.hp ags = some p := by (simp [F]; rfl))
    (he : p.1 = p1 ∨ All2 (AvLe [] [] 0) p.1 p1 := by (first | exact .inl rfl | (refine .inl ?_; simp [F]; done) | (refine .inr ?_; dsimp only; (repeat' first | exact All2.nil | refine All2.cons ?_ ?_ | exact AvLe.refl _ rfl | refine AvLe.aggs ?_) <;> first | exact AvLe.refl _ rfl | exact AvLe.nil _ | exact AvLe.znil _ | exact AvLe.list' (by first | (simp [F]; done) | (simp [F]; omega) | (have hq := F; simp at hq; simp [F, hq]; omega)) (by simp [F]; done) | exact AvLe.eq (by simp [F]; done) rfl)))
    (hpc : p.2.1 := by first | (simp [F]; done) | (simp [F]; omega) | (have hq := F; simp at hq; simp [F, hq]; done) | (have hq := F; simp at hq; simp [F, hq]; omega) | (have hq := F; simp at hq; omega))
    (hl : p.2.2 = true → H' = [] ∧ isScalar r = true := by (simp; done)) (hs : ({ s with hp := s.hp ++ H'.map (objShift s.hp.length), cond := True } : St).setd o.dst (shift s.hp.length r) = some s' := by (simp [F]; rfl)) : regv P T own ops (o :: os) K s :=
  regv_call2 hc ho hcal hg hcl hp he hpc hl hs hk

/-! ### posts that hang on what a state says alone -/
def QE (Q : Exit → St → Prop) : Prop := ∀ s s' : St, Eqv s s' → s.cond → Q .normal s → Q .normal s'

theorem Reloc.eqv {s s' t : St} (he : Eqv s s') (h : Reloc s t) : Reloc s' t := by
  obtain ⟨e1, e2, e3, ⟨e4, e5⟩, _⟩ := he
  obtain ⟨h1, ⟨h2, h2'⟩, L, h3, h4⟩ := h
  exact ⟨by rw [h1, e3], ⟨by rw [h2, e4], by rw [h2', e5]⟩, L, by rw [e2, e3]; exact h3, fun t => by rw [e1, e2, e3]; exact h4 t⟩

theorem qe_loop {α : Type} {S : α → St} {I : Nat → α → Prop} {Q : Exit → St → Prop} {n : Nat} : QE (loopF S I Q n) := fun s s' he _ ⟨y, h1, h2⟩ => ⟨y, h1, h2.eqv he⟩
theorem qe_join {α : Type} {S : α → St} {I : α → Prop} {Q : Exit → St → Prop} : QE (joinQ S I Q) := fun s s' he _ ⟨y, h1, h2⟩ => ⟨y, h1, h2.eqv he⟩
theorem qe_seq {b : Code} {Q Q0 : Exit → St → Prop} : QE (seqQ (Wp P X b Q) Q0) := fun s s' he _ h E0 H0 w0 E a w hd hm => h E0 H0 w0 E a w hd (hm.eqv he.symm)
theorem qe_block {id : Nat} {Q : Exit → St → Prop} (h : QE Q) : QE (blockQ id Q) := fun s s' he hc h2 => h s s' he hc h2

theorem resOne_eqv {s s' : St} (he : Eqv s s') (r : ResultVar) : resOne T s' r = resOne T s r := by
  obtain ⟨e1, e2, _⟩ := he
  cases r <;> simp only [resOne, e1, e2]
theorem resAll_eqv {s s' : St} (he : Eqv s s') : ∀ rs : List ResultVar, resAll T s' rs = resAll T s rs
  | [] => rfl
  | r :: rs => by simp only [resAll, resOne_eqv he r, resAll_eqv he rs]
theorem resA_eqv {s s' : St} (he : Eqv s s') (rs : List ResultVar) : resA T s' rs = resA T s rs := by
  unfold resA
  split
  · exact resOne_eqv he _
  · rw [resAll_eqv he]
theorem qe_end {rs : List ResultVar} {k : Nat} {K : AV → List AObj → Prop} : QE (endQ T rs k K) := fun s s' he _ h => by
  obtain ⟨h0, v, h1, L, r, H', h2, h3, h4⟩ := h
  exact ⟨h0, v, by rw [resA_eqv he]; exact h1, L, r, H', by rw [he.2.1]; exact h2, by rw [he.2.1]; exact h3, h4⟩

theorem Wp.drawnQ (B : List Nat) (hT : TTOk P T) (hM : P.follows .mixedOrders = true) {id : Nat} {Q : Exit → St → Prop} {s : St} (R : List Nat) (hB : drawnB own ops = true) (hc : s.cond) (hQ : QE Q)
    (h : regI P T own ops B R (Q .normal) (List.range ops.size) s) : Wp P X (.region id ops true) Q s := fun E0 H0 w0 E a w hd hm => by
  refine wpIn_region_any hM ?_
  refine any_sound (Q := MQ X E0 H0 w0 Q) hT hB hQ (fun s E a w hk hd hm => MQ.of hd hk hm) ops.size (List.range ops.size) _ s E a _ (by simp) List.pairwise_lt_range ?_ ?_ (by simp) hc h hd (hm.same (Same.drew w))
  · intro i
    simp only [List.mem_range]
    constructor
    · intro hi; exact ⟨hi, by simp [Array.getD, hi]⟩
    · exact fun h => h.1
  · intro k o hok hk
    have hkl := (Array.getElem?_eq_some_iff.1 hok).1
    simp [Array.getD, hkl] at hk

/-! ### code -/
theorem cT (h1 : Wp P X x Q s) {cc : Operand} (ht : s.ev cc = .bool true := by first | (simp [F]; done) | (simp [F]; omega) | (have hq := F; simp at hq; simp [F, hq]; done) | (have hq := F; simp at hq; simp [F, hq]; omega) | (have hq := F; simp at hq; omega)) : Wp P X (.cond cc x y) Q s := Wp.cond true ht (fun _ => h1) (fun h => by cases h)
theorem cF (h1 : Wp P X y Q s) {cc : Operand} (ht : s.ev cc = .bool false := by first | (simp [F]; done) | (simp [F]; omega) | (have hq := F; simp at hq; simp [F, hq]; done) | (have hq := F; simp at hq; simp [F, hq]; omega) | (have hq := F; simp at hq; omega)) : Wp P X (.cond cc x y) Q s := Wp.cond false ht (fun h => by cases h) (fun _ => h1)
theorem sh (h : Wp P X c Q s) : Wp P X c Q s := h
end
end Go.Av

namespace Go.Av
section
variable {P : Program} {X : Ctx} {T : TT} {own : Nat → Bool} {ops : Array Oper} {K : St → Prop} {s s1 : St} {o : Oper} {os : List Oper} {Q Q0 : Exit → St → Prop} {id : Nat} {c x y b a : Code} {B R : List Nat} {i : Nat} {is : List Nat}

/-! ### states restated -/
theorem vl (L : List (Option Nat)) (s1 : St) (hk : regv P T own ops (o :: os) K s1) (hr : RelocL L s s1 := by exact RelocL.mk rfl rfl rfl rfl (by rfl) (by rfl) (by ((repeat' first | exact objsLe_nil | refine objsLe_cons ?_ ?_) <;> first | exact trivial | (refine ObjLe.var0 rfl rfl rfl ?_; (repeat' first | exact All2.nil | refine All2.cons ?_ ?_ | exact AvLe.refl _ rfl | refine AvLe.tups ?_ | refine AvLe.aggs ?_ | refine AvLe.closs ?_ ?_) <;> first | exact AvLe.refl _ rfl | exact AvLe.undef _ | exact AvLe.sl _ _ _ _ rfl | exact AvLe.hptr _ _ _ _ rfl | exact AvLe.mp _ _ rfl | exact AvLe.nil _ | exact AvLe.znil _ | exact AvLe.ghost _ rfl | exact AvLe.zghost _ rfl | exact AvLe.sl' rfl (by simp [F]; done) (by first | (simp [F]; done) | (simp [F]; omega) | omega) | exact AvLe.frz3 rfl (by simp) (by first | exact Nat.zero_le _ | decide) (by simp [F]; done) (by simp [F]; done) (by simp [F]; done) | exact AvLe.list' (by simp [F]; done) (by simp [F]; done) | exact AvLe.eq (by simp [F]; done) rfl) | exact ObjLe.map' rfl rfl | exact ObjLe.map2 rfl rfl (by first | (simp [F]; done) | (simp [F]; rfl)) | exact ObjLe.slot' rfl | exact ObjLe.raw' rfl rfl | exact ObjLe.siter2 rfl rfl (by first | rfl | (simp [F]; done)) (by first | rfl | (simp [F]; done)) | exact ObjLe.ghost' rfl (by decide) | exact ObjLe.arr' rfl rfl (by first | (simp [F]; done) | (simp [F]; omega)) (fun _ _ => by first | rfl | (simp [F]; done)) | (simp [F]; done))) (by ((repeat' first | exact chLe_nil | refine chLe_cons ?_ ?_ | exact All2.nil | refine All2.cons ?_ ?_ | exact AvLe.refl _ rfl | refine AvLe.tups ?_ | refine AvLe.aggs ?_ | refine AvLe.closs ?_ ?_) <;> first | exact AvLe.refl _ rfl | exact AvLe.undef _ | exact AvLe.sl _ _ _ _ rfl | exact AvLe.hptr _ _ _ _ rfl | exact AvLe.mp _ _ rfl | exact AvLe.nil _ | exact AvLe.znil _ | exact AvLe.ghost _ rfl | exact AvLe.zghost _ rfl | exact AvLe.sl' rfl (by simp [F]; done) (by first | (simp [F]; done) | (simp [F]; omega) | omega) | exact AvLe.frz3 rfl (by simp) (by first | exact Nat.zero_le _ | decide) (by simp [F]; done) (by simp [F]; done) (by simp [F]; done) | exact AvLe.list' (by simp [F]; done) (by simp [F]; done) | exact AvLe.eq (by simp [F]; done) rfl))) : regv P T own ops (o :: os) K s := regv_reloc hr hk
theorem rl (L : List (Option Nat)) (s1 : St) (hk : Wp P X c Q s1) (hr : RelocL L s s1 := by exact RelocL.mk rfl rfl rfl rfl (by rfl) (by rfl) (by ((repeat' first | exact objsLe_nil | refine objsLe_cons ?_ ?_) <;> first | exact trivial | (refine ObjLe.var0 rfl rfl rfl ?_; (repeat' first | exact All2.nil | refine All2.cons ?_ ?_ | exact AvLe.refl _ rfl | refine AvLe.tups ?_ | refine AvLe.aggs ?_ | refine AvLe.closs ?_ ?_) <;> first | exact AvLe.refl _ rfl | exact AvLe.undef _ | exact AvLe.sl _ _ _ _ rfl | exact AvLe.hptr _ _ _ _ rfl | exact AvLe.mp _ _ rfl | exact AvLe.nil _ | exact AvLe.znil _ | exact AvLe.ghost _ rfl | exact AvLe.zghost _ rfl | exact AvLe.sl' rfl (by simp [F]; done) (by first | (simp [F]; done) | (simp [F]; omega) | omega) | exact AvLe.frz3 rfl (by simp) (by first | exact Nat.zero_le _ | decide) (by simp [F]; done) (by simp [F]; done) (by simp [F]; done) | exact AvLe.list' (by simp [F]; done) (by simp [F]; done) | exact AvLe.eq (by simp [F]; done) rfl) | exact ObjLe.map' rfl rfl | exact ObjLe.map2 rfl rfl (by first | (simp [F]; done) | (simp [F]; rfl)) | exact ObjLe.slot' rfl | exact ObjLe.raw' rfl rfl | exact ObjLe.siter2 rfl rfl (by first | rfl | (simp [F]; done)) (by first | rfl | (simp [F]; done)) | exact ObjLe.ghost' rfl (by decide) | exact ObjLe.arr' rfl rfl (by first | (simp [F]; done) | (simp [F]; omega)) (fun _ _ => by first | rfl | (simp [F]; done)) | (simp [F]; done))) (by ((repeat' first | exact chLe_nil | refine chLe_cons ?_ ?_ | exact All2.nil | refine All2.cons ?_ ?_ | exact AvLe.refl _ rfl | refine AvLe.tups ?_ | refine AvLe.aggs ?_ | refine AvLe.closs ?_ ?_) <;> first | exact AvLe.refl _ rfl | exact AvLe.undef _ | exact AvLe.sl _ _ _ _ rfl | exact AvLe.hptr _ _ _ _ rfl | exact AvLe.mp _ _ rfl | exact AvLe.nil _ | exact AvLe.znil _ | exact AvLe.ghost _ rfl | exact AvLe.zghost _ rfl | exact AvLe.sl' rfl (by simp [F]; done) (by first | (simp [F]; done) | (simp [F]; omega) | omega) | exact AvLe.frz3 rfl (by simp) (by first | exact Nat.zero_le _ | decide) (by simp [F]; done) (by simp [F]; done) (by simp [F]; done) | exact AvLe.list' (by simp [F]; done) (by simp [F]; done) | exact AvLe.eq (by simp [F]; done) rfl))) : Wp P X c Q s := Wp.reloc hr hk
theorem lp {α : Type} (L : List (Option Nat)) (S : α → St) (I : Nat → α → Prop) (n : Nat) (x : α) (hx : I n x) (k : ∀ n x, I (n + 1) x → Wp P X c (loopF S I Q n) (S x)) (hr : RelocL L s (S x) := by exact RelocL.mk rfl rfl rfl rfl (by rfl) (by rfl) (by ((repeat' first | exact objsLe_nil | refine objsLe_cons ?_ ?_) <;> first | exact trivial | (refine ObjLe.var0 rfl rfl rfl ?_; (repeat' first | exact All2.nil | refine All2.cons ?_ ?_ | exact AvLe.refl _ rfl | refine AvLe.tups ?_ | refine AvLe.aggs ?_ | refine AvLe.closs ?_ ?_) <;> first | exact AvLe.refl _ rfl | exact AvLe.undef _ | exact AvLe.sl _ _ _ _ rfl | exact AvLe.hptr _ _ _ _ rfl | exact AvLe.mp _ _ rfl | exact AvLe.nil _ | exact AvLe.znil _ | exact AvLe.ghost _ rfl | exact AvLe.zghost _ rfl | exact AvLe.sl' rfl (by simp [F]; done) (by first | (simp [F]; done) | (simp [F]; omega) | omega) | exact AvLe.frz3 rfl (by simp) (by first | exact Nat.zero_le _ | decide) (by simp [F]; done) (by simp [F]; done) (by simp [F]; done) | exact AvLe.list' (by simp [F]; done) (by simp [F]; done) | exact AvLe.eq (by simp [F]; done) rfl) | exact ObjLe.map' rfl rfl | exact ObjLe.map2 rfl rfl (by first | (simp [F]; done) | (simp [F]; rfl)) | exact ObjLe.slot' rfl | exact ObjLe.raw' rfl rfl | exact ObjLe.siter2 rfl rfl (by first | rfl | (simp [F]; done)) (by first | rfl | (simp [F]; done)) | exact ObjLe.ghost' rfl (by decide) | exact ObjLe.arr' rfl rfl (by first | (simp [F]; done) | (simp [F]; omega)) (fun _ _ => by first | rfl | (simp [F]; done)) | (simp [F]; done))) (by ((repeat' first | exact chLe_nil | refine chLe_cons ?_ ?_ | exact All2.nil | refine All2.cons ?_ ?_ | exact AvLe.refl _ rfl | refine AvLe.tups ?_ | refine AvLe.aggs ?_ | refine AvLe.closs ?_ ?_) <;> first | exact AvLe.refl _ rfl | exact AvLe.undef _ | exact AvLe.sl _ _ _ _ rfl | exact AvLe.hptr _ _ _ _ rfl | exact AvLe.mp _ _ rfl | exact AvLe.nil _ | exact AvLe.znil _ | exact AvLe.ghost _ rfl | exact AvLe.zghost _ rfl | exact AvLe.sl' rfl (by simp [F]; done) (by first | (simp [F]; done) | (simp [F]; omega) | omega) | exact AvLe.frz3 rfl (by simp) (by first | exact Nat.zero_le _ | decide) (by simp [F]; done) (by simp [F]; done) (by simp [F]; done) | exact AvLe.list' (by simp [F]; done) (by simp [F]; done) | exact AvLe.eq (by simp [F]; done) rfl)))
    (h0 : ∀ x, ¬ I 0 x := by (intro _ h; cases h)) : Wp P X (.loop c) Q s := Wp.loopF S I h0 k n x hx hr
theorem nx {α : Type} {S : α → St} {I : α → Prop} (L : List (Option Nat)) (y : α) (h : I y) (hr : RelocL L s (S y) := by exact RelocL.mk rfl rfl rfl rfl (by rfl) (by rfl) (by ((repeat' first | exact objsLe_nil | refine objsLe_cons ?_ ?_) <;> first | exact trivial | (refine ObjLe.var0 rfl rfl rfl ?_; (repeat' first | exact All2.nil | refine All2.cons ?_ ?_ | exact AvLe.refl _ rfl | refine AvLe.tups ?_ | refine AvLe.aggs ?_ | refine AvLe.closs ?_ ?_) <;> first | exact AvLe.refl _ rfl | exact AvLe.undef _ | exact AvLe.sl _ _ _ _ rfl | exact AvLe.hptr _ _ _ _ rfl | exact AvLe.mp _ _ rfl | exact AvLe.nil _ | exact AvLe.znil _ | exact AvLe.ghost _ rfl | exact AvLe.zghost _ rfl | exact AvLe.sl' rfl (by simp [F]; done) (by first | (simp [F]; done) | (simp [F]; omega) | omega) | exact AvLe.frz3 rfl (by simp) (by first | exact Nat.zero_le _ | decide) (by simp [F]; done) (by simp [F]; done) (by simp [F]; done) | exact AvLe.list' (by simp [F]; done) (by simp [F]; done) | exact AvLe.eq (by simp [F]; done) rfl) | exact ObjLe.map' rfl rfl | exact ObjLe.map2 rfl rfl (by first | (simp [F]; done) | (simp [F]; rfl)) | exact ObjLe.slot' rfl | exact ObjLe.raw' rfl rfl | exact ObjLe.siter2 rfl rfl (by first | rfl | (simp [F]; done)) (by first | rfl | (simp [F]; done)) | exact ObjLe.ghost' rfl (by decide) | exact ObjLe.arr' rfl rfl (by first | (simp [F]; done) | (simp [F]; omega)) (fun _ _ => by first | rfl | (simp [F]; done)) | (simp [F]; done))) (by ((repeat' first | exact chLe_nil | refine chLe_cons ?_ ?_ | exact All2.nil | refine All2.cons ?_ ?_ | exact AvLe.refl _ rfl | refine AvLe.tups ?_ | refine AvLe.aggs ?_ | refine AvLe.closs ?_ ?_) <;> first | exact AvLe.refl _ rfl | exact AvLe.undef _ | exact AvLe.sl _ _ _ _ rfl | exact AvLe.hptr _ _ _ _ rfl | exact AvLe.mp _ _ rfl | exact AvLe.nil _ | exact AvLe.znil _ | exact AvLe.ghost _ rfl | exact AvLe.zghost _ rfl | exact AvLe.sl' rfl (by simp [F]; done) (by first | (simp [F]; done) | (simp [F]; omega) | omega) | exact AvLe.frz3 rfl (by simp) (by first | exact Nat.zero_le _ | decide) (by simp [F]; done) (by simp [F]; done) (by simp [F]; done) | exact AvLe.list' (by simp [F]; done) (by simp [F]; done) | exact AvLe.eq (by simp [F]; done) rfl))) : ∃ y, I y ∧ Reloc s (S y) := ⟨y, h, hr⟩
theorem jn {α : Type} (S : α → St) (I : α → Prop) (hb : ∀ x, I x → Wp P X b Q (S x)) (ha : Wp P X a (joinQ S I Q) s) : Wp P X (.seq a b) Q s := Wp.join S I hb ha

/-! ### a function's end -/
theorem en0 {rs : List ResultVar} {v r : AV} (hv : resA T s rs = some v := by rfl) (hle : AvLe s.hp [] 0 v r := by ((repeat' first | exact All2.nil | refine All2.cons ?_ ?_ | refine AvLe.tups ?_ | refine AvLe.aggs ?_) <;> first | exact AvLe.refl _ rfl | exact AvLe.nil _ | exact AvLe.znil _ | exact AvLe.frz' rfl rfl rfl (by simp [F]; done) (by simp [F]; done) (by simp [F]; done) | exact AvLe.list' (by simp [F]; done) (by simp [F]; done) | exact AvLe.eq (by simp [F]; done) rfl)) : endQ T rs 0 (fun r' H'' => r' = r ∧ H'' = []) .ret s := endQ_ret0 hv hle
theorem enH {rs : List ResultVar} {k : Nat} {v r : AV} {H' : List AObj} (L : List (Option Nat)) (hv : resA T s rs = some v := by rfl) (hlen : H'.length = L.length := by rfl) (hlow : lowB k L = true := by rfl) (hinj : injB L H' = true := by rfl)
    (hobj : ObjsLe s.hp L k 0 H' := by ((repeat' first | exact objsLe_nil | refine objsLe_cons ?_ ?_) <;> first | exact trivial | (refine ObjLe.var0 rfl rfl rfl ?_; (repeat' first | exact All2.nil | refine All2.cons ?_ ?_ | exact AvLe.refl _ rfl | refine AvLe.tups ?_ | refine AvLe.aggs ?_ | refine AvLe.closs ?_ ?_) <;> first | exact AvLe.refl _ rfl | exact AvLe.undef _ | exact AvLe.sl _ _ _ _ rfl | exact AvLe.hptr _ _ _ _ rfl | exact AvLe.mp _ _ rfl | exact AvLe.nil _ | exact AvLe.znil _ | exact AvLe.ghost _ rfl | exact AvLe.zghost _ rfl | exact AvLe.sl' rfl (by simp [F]; done) (by first | (simp [F]; done) | (simp [F]; omega) | omega) | exact AvLe.frz3 rfl (by simp) (by first | exact Nat.zero_le _ | decide) (by simp [F]; done) (by simp [F]; done) (by simp [F]; done) | exact AvLe.list' (by simp [F]; done) (by simp [F]; done) | exact AvLe.eq (by simp [F]; done) rfl) | exact ObjLe.map' rfl rfl | exact ObjLe.map2 rfl rfl (by first | (simp [F]; done) | (simp [F]; rfl)) | exact ObjLe.slot' rfl | exact ObjLe.raw' rfl rfl | exact ObjLe.siter2 rfl rfl (by first | rfl | (simp [F]; done)) (by first | rfl | (simp [F]; done)) | exact ObjLe.ghost' rfl (by decide) | exact ObjLe.arr' rfl rfl (by first | (simp [F]; done) | (simp [F]; omega)) (fun _ _ => by first | rfl | (simp [F]; done)) | (simp [F]; done))) (hle : AvLe s.hp L k v r := by ((repeat' first | exact All2.nil | refine All2.cons ?_ ?_ | exact AvLe.refl _ rfl | refine AvLe.tups ?_ | refine AvLe.aggs ?_ | refine AvLe.closs ?_ ?_) <;> first | exact AvLe.refl _ rfl | exact AvLe.undef _ | exact AvLe.sl _ _ _ _ rfl | exact AvLe.hptr _ _ _ _ rfl | exact AvLe.mp _ _ rfl | exact AvLe.nil _ | exact AvLe.znil _ | exact AvLe.ghost _ rfl | exact AvLe.zghost _ rfl | exact AvLe.sl' rfl (by simp [F]; done) (by first | (simp [F]; done) | (simp [F]; omega) | omega) | exact AvLe.frz3 rfl (by simp) (by first | exact Nat.zero_le _ | decide) (by simp [F]; done) (by simp [F]; done) (by simp [F]; done) | exact AvLe.list' (by simp [F]; done) (by simp [F]; done) | exact AvLe.eq (by simp [F]; done) rfl)) : endQ T rs k (fun r' H'' => r' = r ∧ H'' = H') .ret s := endQ_retH L hv (relocH_mk hlen hlow hinj hobj) hle rfl rfl

/-! ### calls that hand objects on -/
theorem vh {s' : St} {cl : Call} {f : Operand} {g : FuncId} {ags : List AV} {p1 : List AV} {p : List AV × Prop × Bool} {H H' : List AObj} {r : AV} (I : List Nat)
    (hc : ConH P s.gl g p1 H r H') (hk : regv P T own ops os K s') (hg : guardA ops s o = some true := by rfl) (ho : o.op = .call cl := by rfl) (hcal : cl.callee = .value f := by rfl) (hcl : calleeA s f cl.args.toList = some (g, ags) := by first | rfl | (simp [F]; rfl)) (hI : nodupB I = true := by rfl)
    (hcd : closedB I s.hp = true := by first | rfl | (simp [F]; done)) (hp : argsH I s.hp ags = some p := by (simp [F]; rfl))
    (hH : (passed I s.hp = H ∧ p.1 = p1) ∨ (RelocH (idL (passed I s.hp).length) (passed I s.hp).length (passed I s.hp) H ∧ All2 (AvLe (passed I s.hp) (idL (passed I s.hp).length) (passed I s.hp).length) p.1 p1) := by (first | exact .inl ⟨rfl, rfl⟩ | (refine .inl ⟨?_, ?_⟩ <;> (simp [F]; done)) | (refine .inr ⟨relocH_mk rfl (by rfl) (by rfl) (by ((repeat' first | exact objsLe_nil | refine objsLe_cons ?_ ?_) <;> first | exact trivial | (refine ObjLe.var0 rfl rfl rfl ?_; (repeat' first | exact All2.nil | refine All2.cons ?_ ?_ | exact AvLe.refl _ rfl | refine AvLe.tups ?_ | refine AvLe.aggs ?_ | refine AvLe.closs ?_ ?_) <;> first | exact AvLe.refl _ rfl | exact AvLe.undef _ | exact AvLe.sl _ _ _ _ rfl | exact AvLe.hptr _ _ _ _ rfl | exact AvLe.mp _ _ rfl | exact AvLe.nil _ | exact AvLe.znil _ | exact AvLe.ghost _ rfl | exact AvLe.zghost _ rfl | exact AvLe.sl' rfl (by simp [F]; done) (by first | (simp [F]; done) | (simp [F]; omega) | omega) | exact AvLe.frz3 rfl (by simp) (by first | exact Nat.zero_le _ | decide) (by simp [F]; done) (by simp [F]; done) (by simp [F]; done) | exact AvLe.list' (by simp [F]; done) (by simp [F]; done) | exact AvLe.eq (by simp [F]; done) rfl) | exact ObjLe.map' rfl rfl | exact ObjLe.map2 rfl rfl (by first | (simp [F]; done) | (simp [F]; rfl)) | exact ObjLe.slot' rfl | exact ObjLe.raw' rfl rfl | exact ObjLe.siter2 rfl rfl (by first | rfl | (simp [F]; done)) (by first | rfl | (simp [F]; done)) | exact ObjLe.ghost' rfl (by decide) | exact ObjLe.arr' rfl rfl (by first | (simp [F]; done) | (simp [F]; omega)) (fun _ _ => by first | rfl | (simp [F]; done)) | (simp [F]; done))), ?_⟩; dsimp only; (repeat' first | exact All2.nil | refine All2.cons ?_ ?_ | exact AvLe.refl _ rfl | refine AvLe.tups ?_ | refine AvLe.aggs ?_ | refine AvLe.closs ?_ ?_) <;> first | exact AvLe.refl _ rfl | exact AvLe.undef _ | exact AvLe.sl _ _ _ _ rfl | exact AvLe.hptr _ _ _ _ rfl | exact AvLe.mp _ _ rfl | exact AvLe.nil _ | exact AvLe.znil _ | exact AvLe.ghost _ rfl | exact AvLe.zghost _ rfl | exact AvLe.sl' rfl (by simp [F]; done) (by first | (simp [F]; done) | (simp [F]; omega) | omega) | exact AvLe.frz3 rfl (by simp) (by first | exact Nat.zero_le _ | decide) (by simp [F]; done) (by simp [F]; done) (by simp [F]; done) | exact AvLe.list' (by simp [F]; done) (by simp [F]; done) | exact AvLe.eq (by simp [F]; done) rfl)))
    (hpc : p.2.1 := by first | (simp [F]; done) | (simp [F]; omega) | (have hq := F; simp at hq; simp [F, hq]; done) | (have hq := F; simp at hq; simp [F, hq]; omega) | (have hq := F; simp at hq; omega)) (hl : p.2.2 = true → isLocT r = true ∧ ∀ o ∈ H', LocObj o := by (simp; done))
    (hs : ({ s with hp := putBack I s.hp H', cond := True } : St).setd o.dst (mapT (bid I s.hp.length) r) = some s' := by (simp [F]; rfl)) : regv P T own ops (o :: os) K s := regv_callH I hc ho hcal hg hcl hI hcd hp hH hpc hl hs hk

/-! ### regions whose order is drawn -/
theorem dw (own : Nat → Bool) (R : List Nat) (h : regI P T own ops [] R (Wp P X b Q) (List.range ops.size) s) (hT : TTOk P T := by exact tt_ok) (hM : P.follows .mixedOrders = true := by exact mixed) (hB : drawnB own ops = true := by decide +kernel) (hc : s.cond := by trivial) : Wp P X (.seq (.region id ops true) b) Q s := Wp.drawn hT hM R hB hc h
theorem dw1 (own : Nat → Bool) (R : List Nat) (h : regI P T own ops [] R (Q .normal) (List.range ops.size) s) (hT : TTOk P T := by exact tt_ok) (hM : P.follows .mixedOrders = true := by exact mixed) (hB : drawnB own ops = true := by decide +kernel) (hc : s.cond := by trivial) (hQ : QE Q := by first | exact qe_seq | exact qe_loop | exact qe_join | exact qe_end | exact qe_block qe_end | exact qe_block qe_seq | exact qe_block qe_loop | exact qe_block qe_join | exact qe_block (qe_block qe_seq) | exact qe_block (qe_block qe_loop) | exact qe_block (qe_block qe_join) | exact qe_block (qe_block (qe_block qe_seq)) | exact qe_block (qe_block (qe_block qe_loop)) | exact qe_block (qe_block (qe_block qe_join))) : Wp P X (.region id ops true) Q s := Wp.drawnQ [] hT hM R hB hc hQ h
theorem dz (B : List Nat) (own : Nat → Bool) (R : List Nat) (h : regI P T own ops B R (Wp P X b Q) (List.range ops.size) s) (hT : TTOk P T := by exact tt_ok) (hM : P.follows .mixedOrders = true := by exact mixed) (hB : drawnB own ops = true := by decide +kernel) (hc : s.cond := by trivial) : Wp P X (.seq (.region id ops true) b) Q s := Wp.drawnS B hT hM R hB hc h
theorem dz1 (B : List Nat) (own : Nat → Bool) (R : List Nat) (h : regI P T own ops B R (Q .normal) (List.range ops.size) s) (hT : TTOk P T := by exact tt_ok) (hM : P.follows .mixedOrders = true := by exact mixed) (hB : drawnB own ops = true := by decide +kernel) (hc : s.cond := by trivial) (hQ : QE Q := by first | exact qe_seq | exact qe_loop | exact qe_join | exact qe_end | exact qe_block qe_end | exact qe_block qe_seq | exact qe_block qe_loop | exact qe_block qe_join | exact qe_block (qe_block qe_seq) | exact qe_block (qe_block qe_loop) | exact qe_block (qe_block qe_join) | exact qe_block (qe_block (qe_block qe_seq)) | exact qe_block (qe_block (qe_block qe_loop)) | exact qe_block (qe_block (qe_block qe_join))) : Wp P X (.region id ops true) Q s := Wp.drawnQ B hT hM R hB hc hQ h
theorem du (n : Nat) {r : St × Prop} (hk : regI P T own ops B R K (is.drop n) r.1) (h : runI T own ops R (is.take n) s = some r := by (simp [List.range, List.range.loop, F]; rfl)) (hc : r.2 := by first | (simp [F]; done) | (simp [F]; omega) | (have hq := F; simp at hq; simp [F, hq]; done) | (have hq := F; simp at hq; simp [F, hq]; omega) | (have hq := F; simp at hq; omega)) : regI P T own ops B R K is s := regI_upto n h hc hk
theorem ds {s1 : St} (hk2 : regI P T own ops B R K is s1) (ho : ops[i]? = some o := by rfl) (hk : valKind own o = true := by rfl) (hg : guardA ops s o = some false := by first | (simp [F]; done) | (have hq := F; simp at hq; simp [F, hq]; done)) (hv : s.setd o.dst (.tup []) = some s1 := by (simp [F]; rfl)) : regI P T own ops B R K (i :: is) s := regI_skip ho hk hg hv hk2
theorem db {r : St} (hk2 : regI P T own ops B R K is { r with cond := True }) (hT : TTOk P T := by exact tt_ok) (ho : ops[i]? = some o := by rfl) (hk : valKind own o = false := by rfl) (he : effKind own o = false := by rfl) (hgd : o.guard = none := by rfl) (hf : opf T own o s = some r := by (simp [F]; rfl)) (hc : r.cond := by first | (simp [F]; done) | (simp [F]; omega) | (have hq := F; simp at hq; simp [F, hq]; done) | (have hq := F; simp at hq; simp [F, hq]; omega) | (have hq := F; simp at hq; omega)) (hsl : slotKind own o = false := by rfl) : regI P T own ops B R K (i :: is) s := regI_bar hT ho hk he hgd hf hc hk2 hsl
theorem de {r : St} (hk : regI P T own ops B R K is { r with cond := True }) (ho : ops[i]? = some o := by rfl) (hv : valKind own o = false := by rfl) (he : effKind own o = true := by rfl) (hp : isPure o = true := by rfl) (hg : guardA ops s o = some true := by rfl) (hf : opf T own o s = some r := by (simp [F]; rfl)) (hc : r.cond := by first | (simp [F]; done) | (simp [F]; omega) | (have hq := F; simp at hq; simp [F, hq]; done) | (have hq := F; simp at hq; simp [F, hq]; omega) | (have hq := F; simp at hq; omega)) (hsc : s.cond = True := by rfl)
    (hR : ∀ id ∈ R, r.hp[id]? = s.hp[id]? := by (simp [F]; done)) (hS : slotsB B s.hp = true := by rfl) (hst : ∀ t a x, o.op = .store t a x → own 3000 = false := by (intro _ _ _ h; cases h)) : regI P T own ops B R K (i :: is) s := regI_eff ho hv he hp hg hf hc hsc hR hk hS hst
theorem dl {t : TypeId} {d : Nat} {z : List AV} {s1 : St} (k : Nat) (hk : regI P T own ops B R K is s1) (ho : ops[i]? = some o := by rfl) (hop : o.op = .alloc t := by rfl) (hd : o.dst = some d := by rfl) (hown : own d = true := by rfl) (hg : o.guard = none := by rfl) (hkB : k ∈ B := by decide) (hkR : k ∉ R := by decide)
    (hb : s.base ≤ k := by first | exact Nat.zero_le _ | decide) (hs : s.hp[k]? = some .slot := by rfl) (hn : Nat.blt d s.n = true := by rfl) (hz : (T t).map TS.zero = some z := by (simp [F]; rfl)) (he : ({ s with ch := (d, .hptr k 0 0) :: s.ch, hp := s.hp.set k (.var z) } : St) = s1 := by (simp [F]; rfl)) : regI P T own ops B R K (i :: is) s := regI_slot2 k ho hop hd hown hg hkB hkR hb hs hn hz he hk
theorem dc {s1 : St} {cl : Call} {g : FuncId} {p1 : List AV} {p : List AV × Prop × Bool} {r : AV} (hcon : Con P s.gl g p1 r []) (hk : regI P T own ops B R K is s1) (ho : ops[i]? = some o := by rfl) (hoc : o.op = .call cl := by rfl) (hcal : cl.callee = .value (.func g) := by rfl)
    (hg : guardA ops s o = some true := by rfl) (hp : toArgs s.hp (cl.args.toList.map s.ev) = some p := by (simp [F]; rfl)) (he : p.1 = p1 ∨ All2 (AvLe [] [] 0) p.1 p1 := by (first | exact .inl rfl | (refine .inl ?_; simp [F]; done) | (refine .inr ?_; dsimp only; (repeat' first | exact All2.nil | refine All2.cons ?_ ?_ | exact AvLe.refl _ rfl | refine AvLe.aggs ?_) <;> first | exact AvLe.refl _ rfl | exact AvLe.nil _ | exact AvLe.znil _ | exact AvLe.list' (by first | (simp [F]; done) | (simp [F]; omega) | (have hq := F; simp at hq; simp [F, hq]; omega)) (by simp [F]; done) | exact AvLe.eq (by simp [F]; done) rfl))) (hpc : p.2.1 := by first | (simp [F]; done) | (simp [F]; omega) | (have hq := F; simp at hq; simp [F, hq]; done) | (have hq := F; simp at hq; simp [F, hq]; omega) | (have hq := F; simp at hq; omega)) (hsh : ∀ n, shift n r = r := by (intro _; rfl)) (hl : p.2.2 = true → isScalar r = true := by (simp; done)) (hw : withinB R s o = true := by first | rfl | (simp [F]; done))
    (hs : s.setd o.dst r = some s1 := by (simp [F]; rfl)) (hown : own (o.dst.getD 0) = false := by rfl) : regI P T own ops B R K (i :: is) s := regI_call2 hcon ho hoc hcal hg hp he hpc hsh hl hw hs hk hown
theorem dx {s1 : St} {cl : Call} {g : FuncId} {p1 : List AV} {p : List AV × Prop × Bool} {r : AV} {H' : List AObj} (hcon : Con P s.gl g p1 r H') (hk : regI P T own ops B R K is s1) (ho : ops[i]? = some o := by rfl) (hoc : o.op = .call cl := by rfl) (hcal : cl.callee = .value (.func g) := by rfl)
    (hg : guardA ops s o = some true := by rfl) (hp : toArgs s.hp (cl.args.toList.map s.ev) = some p := by (simp [F]; rfl)) (he : p.1 = p1 ∨ All2 (AvLe [] [] 0) p.1 p1 := by (first | exact .inl rfl | (refine .inl ?_; simp [F]; done) | (refine .inr ?_; dsimp only; (repeat' first | exact All2.nil | refine All2.cons ?_ ?_ | exact AvLe.refl _ rfl | refine AvLe.aggs ?_) <;> first | exact AvLe.refl _ rfl | exact AvLe.nil _ | exact AvLe.znil _ | exact AvLe.list' (by first | (simp [F]; done) | (simp [F]; omega) | (have hq := F; simp at hq; simp [F, hq]; omega)) (by simp [F]; done) | exact AvLe.eq (by simp [F]; done) rfl))) (hpc : p.2.1 := by first | (simp [F]; done) | (simp [F]; omega) | (have hq := F; simp at hq; simp [F, hq]; done) | (have hq := F; simp at hq; simp [F, hq]; omega) | (have hq := F; simp at hq; omega)) (hl : p.2.2 = true → H' = [] ∧ isScalar r = true := by (simp; done)) (hR : ∀ id ∈ R, id < s.hp.length := by (simp; done))
    (hs : ({ s with hp := s.hp ++ H'.map (objShift s.hp.length) } : St).setd o.dst (shift s.hp.length r) = some s1 := by (simp [F]; rfl)) (hown : (own (o.dst.getD 0) && !own (o.dst.getD 0 + 1000)) = true := by rfl)
    (hS : slotsB B s.hp = true := by rfl) (hBa : ∀ v ∈ cl.args.toList.map s.ev, ∀ id ∈ refsD v, id ∉ B := by simp) : regI P T own ops B R K (i :: is) s := regI_ecall2 hcon ho hoc hcal hg hp he hpc hl hR hs hk hown hS hBa
theorem dh {s' : St} {cl : Call} {f : Operand} {g : FuncId} {ags : List AV} {p1 : List AV} {p : List AV × Prop × Bool} {H H' : List AObj} {r : AV} (I : List Nat)
    (hc : ConH P s.gl g p1 H r H') (hk : regI P T own ops B R K is s') (ho : ops[i]? = some o := by rfl) (hv : valKind own o = false := by rfl) (he : effKind own o = false := by rfl) (hsl : slotKind own o = false := by rfl) (hgd : o.guard = none := by rfl) (hcn : s'.cond := by trivial) (hoc : o.op = .call cl := by rfl) (hcal : cl.callee = .value f := by rfl) (hcl : calleeA s f cl.args.toList = some (g, ags) := by first | rfl | (simp [F]; rfl)) (hI : nodupB I = true := by rfl)
    (hcd : closedB I s.hp = true := by first | rfl | (simp [F]; done)) (hp : argsH I s.hp ags = some p := by (simp [F]; rfl))
    (hH : (passed I s.hp = H ∧ p.1 = p1) ∨ (RelocH (idL (passed I s.hp).length) (passed I s.hp).length (passed I s.hp) H ∧ All2 (AvLe (passed I s.hp) (idL (passed I s.hp).length) (passed I s.hp).length) p.1 p1) := by (first | exact .inl ⟨rfl, rfl⟩ | (refine .inl ⟨?_, ?_⟩ <;> (simp [F]; done)) | (refine .inr ⟨relocH_mk rfl (by rfl) (by rfl) (by ((repeat' first | exact objsLe_nil | refine objsLe_cons ?_ ?_) <;> first | exact trivial | (refine ObjLe.var0 rfl rfl rfl ?_; (repeat' first | exact All2.nil | refine All2.cons ?_ ?_ | exact AvLe.refl _ rfl | refine AvLe.tups ?_ | refine AvLe.aggs ?_ | refine AvLe.closs ?_ ?_) <;> first | exact AvLe.refl _ rfl | exact AvLe.undef _ | exact AvLe.sl _ _ _ _ rfl | exact AvLe.hptr _ _ _ _ rfl | exact AvLe.mp _ _ rfl | exact AvLe.nil _ | exact AvLe.znil _ | exact AvLe.ghost _ rfl | exact AvLe.zghost _ rfl | exact AvLe.sl' rfl (by simp [F]; done) (by first | (simp [F]; done) | (simp [F]; omega) | omega) | exact AvLe.frz3 rfl (by simp) (by first | exact Nat.zero_le _ | decide) (by simp [F]; done) (by simp [F]; done) (by simp [F]; done) | exact AvLe.list' (by simp [F]; done) (by simp [F]; done) | exact AvLe.eq (by simp [F]; done) rfl) | exact ObjLe.map' rfl rfl | exact ObjLe.map2 rfl rfl (by first | (simp [F]; done) | (simp [F]; rfl)) | exact ObjLe.slot' rfl | exact ObjLe.raw' rfl rfl | exact ObjLe.siter2 rfl rfl (by first | rfl | (simp [F]; done)) (by first | rfl | (simp [F]; done)) | exact ObjLe.ghost' rfl (by decide) | exact ObjLe.arr' rfl rfl (by first | (simp [F]; done) | (simp [F]; omega)) (fun _ _ => by first | rfl | (simp [F]; done)) | (simp [F]; done))), ?_⟩; dsimp only; (repeat' first | exact All2.nil | refine All2.cons ?_ ?_ | exact AvLe.refl _ rfl | refine AvLe.tups ?_ | refine AvLe.aggs ?_ | refine AvLe.closs ?_ ?_) <;> first | exact AvLe.refl _ rfl | exact AvLe.undef _ | exact AvLe.sl _ _ _ _ rfl | exact AvLe.hptr _ _ _ _ rfl | exact AvLe.mp _ _ rfl | exact AvLe.nil _ | exact AvLe.znil _ | exact AvLe.ghost _ rfl | exact AvLe.zghost _ rfl | exact AvLe.sl' rfl (by simp [F]; done) (by first | (simp [F]; done) | (simp [F]; omega) | omega) | exact AvLe.frz3 rfl (by simp) (by first | exact Nat.zero_le _ | decide) (by simp [F]; done) (by simp [F]; done) (by simp [F]; done) | exact AvLe.list' (by simp [F]; done) (by simp [F]; done) | exact AvLe.eq (by simp [F]; done) rfl)))
    (hpc : p.2.1 := by first | (simp [F]; done) | (simp [F]; omega) | (have hq := F; simp at hq; simp [F, hq]; done) | (have hq := F; simp at hq; simp [F, hq]; omega) | (have hq := F; simp at hq; omega)) (hl : p.2.2 = true → isLocT r = true ∧ ∀ o ∈ H', LocObj o := by (simp; done))
    (hs : ({ s with hp := putBack I s.hp H', cond := True } : St).setd o.dst (mapT (bid I s.hp.length) r) = some s' := by (simp [F]; rfl)) : regI P T own ops B R K (i :: is) s := regI_callH I hc ho hv he hsl hgd hoc hcal hcl hI hcd hp hH hpc hl hs hcn hk
theorem dr {s1 : St} {cl : Call} {f : Operand} {g : FuncId} {ags : List AV} {p1 : List AV} {p : List AV × Prop × Bool} {H : List AObj} {r : AV} (I : List Nat)
    (hc : ConH P s.gl g p1 H r H) (hk : regI P T own ops B R K is s1) (ho : ops[i]? = some o := by rfl) (hoc : o.op = .call cl := by rfl) (hcal : cl.callee = .value f := by rfl) (hg : guardA ops s o = some true := by rfl) (hcl : calleeA s f cl.args.toList = some (g, ags) := by first | rfl | (simp [F]; rfl)) (hI : nodupB I = true := by rfl)
    (hcd : closedB I s.hp = true := by first | rfl | (simp [F]; done)) (hIR : ∀ i ∈ I, i ∈ R := by decide) (hp : argsH I s.hp ags = some p := by (simp [F]; rfl)) (hw : ∀ v ∈ ags, ∀ id ∈ refsD v, id ∈ R := by (simp [F]; done)) (hH : passed I s.hp = H ∧ p.1 = p1 := by first | exact ⟨rfl, rfl⟩ | exact ⟨by (simp [F]; done), by (simp [F]; done)⟩)
    (hrt : I.all (fun i => rtB (s.hp.getD i .dead)) = true := by rfl) (hpc : p.2.1 := by first | (simp [F]; done) | (simp [F]; omega) | (have hq := F; simp at hq; simp [F, hq]; done) | (have hq := F; simp at hq; simp [F, hq]; omega) | (have hq := F; simp at hq; omega)) (hsc : isScalar r = true := by rfl) (hl : p.2.2 = true → ∀ o ∈ H, LocObj o := by (simp; done)) (hs : s.setd o.dst r = some s1 := by (simp [F]; rfl)) (hown : own (o.dst.getD 0) = false := by rfl) : regI P T own ops B R K (i :: is) s := regI_callR I hc ho hoc hcal hg hcl hI hcd hIR hp hw hH hrt hpc hsc hl hs hk hown
theorem dt {r : St} {t : TypeId} {a x : Operand} (hk : regI P T own ops B R K is { r with cond := True }) (ho : ops[i]? = some o := by rfl) (hop : o.op = .store t a x := by rfl) (hd : o.dst = none := by rfl) (hown : own 3000 = true := by rfl) (hg : guardA ops s o = some true := by rfl) (hf : opf T own o s = some r := by (simp [F]; rfl)) (hc : r.cond := by first | (simp [F]; done) | (simp [F]; omega) | (have hq := F; simp at hq; simp [F, hq]; done) | (have hq := F; simp at hq; simp [F, hq]; omega) | (have hq := F; simp at hq; omega)) (hsc : s.cond = True := by rfl)
    (hR : ∀ id ∈ R, r.hp[id]? = s.hp[id]? := by (simp [F]; done)) (hBa : ∀ id ∈ refs (s.ev a), id ∉ B := by (simp [F]; done)) : regI P T own ops B R K (i :: is) s := regI_store ho hop hd hown hg hf hc hsc hR hBa hk
theorem dn (h : K s) : regI P T own ops B R K [] s := h
end
end Go.Av

namespace Go.Av
section
variable {E0 : Env} {H0 : List AObj} {w0 : World} {E : Env} {s : St} {a : Act} {w : World} {P : Program} {T : TT} {own : Nat → Bool} {X : Ctx}

theorem Models.owned (h : Models E0 H0 w0 E s a w) {b : Nat} (ho : Owned E s.hp b) : Owned E0 H0 b ∨ w0.heap.size ≤ b := by
  obtain ⟨id, hl, hb⟩ := ho
  by_cases hi : id < s.base
  · obtain ⟨g1, g2, _⟩ := h.old id hi
    exact .inl ⟨id, g1 hl, by rw [← g2]; exact hb⟩
  · exact (h.new id b (by omega) hl hb).symm

/-- A walk begun in the middle of another. -/
theorem Models.comp (h : Models E0 H0 w0 E s a w) {E' : Env} {s' : St} {a' : Act} {w' : World} (k : Models E s.hp w E' s' a' w') : Models E0 H0 w0 E' { s' with base := s.base, gl := s.gl } a' w' := by
  have hb := h.base
  have kb := k.base
  refine ⟨k.size, k.tmps, k.heap, ⟨hb.1, Nat.le_trans hb.2 kb.2⟩, fun id hi => ?_, fun id b hi hl hρ => ?_, fun b hF => k.F b (h.F b hF), fun b hF => ?_, h.keeps.trans k.keeps fun b hlt ho => ?_, h.laid⟩
  · have hi : id < s.base := hi
    obtain ⟨a1, a2, a3, a4, a5⟩ := h.old id hi
    obtain ⟨b1, b2, b3, b4, b5⟩ := k.old id (by omega)
    exact ⟨fun hl => a1 (b1 hl), b2.trans a2, b3.trans a3, b4.trans a4, b5.trans a5⟩
  · have hi : s.base ≤ id := hi
    by_cases hlt : id < s'.base
    · obtain ⟨b1, b2, _⟩ := k.old id hlt
      exact h.new id b hi (b1 hl) (by rw [← b2]; exact hρ)
    · rcases k.new id b (by omega) hl hρ with g | g
      · exact .inl (Nat.le_trans h.keeps.size g)
      · exact (h.owned g).symm
  · rcases k.Fnew b hF with g | g | g
    · exact h.Fnew b g
    · exact .inr (.inl (Nat.le_trans h.keeps.size g))
    · exact .inr (h.owned g).symm
  · rcases h.owned ho with g | g
    · exact g
    · omega

theorem Models.restart (h : Models E0 H0 w0 E s a w) : Models E s.hp w E { s with base := s.hp.length } a w :=
  ⟨h.size, h.tmps, h.heap, ⟨rfl, Nat.le_refl _⟩, fun _ _ => ⟨fun h => h, rfl, rfl, rfl, rfl⟩, fun id b hi hl _ => by
    have hi : s.hp.length ≤ id := hi
    have := live_lt hl; simp only at this; omega, fun _ h => h, fun _ h => .inl h, Keeps.refl _ _, .of h.heap h.glob⟩

/-- Another frame over the same heap. -/
theorem Models.frame (h : Models E0 H0 w0 E s a w) {ch : List (Nat × AV)} {n : Nat} {a' : Act} (hn : a'.tmps.size = n) (ht : ∀ t, Rep E w (look ch t) (a'.tmps.getD t undef)) : Models E0 H0 w0 E { s with ch := ch, n := n } a' w :=
  ⟨hn, ht, h.heap, h.base, h.old, h.new, h.F, h.Fnew, h.keeps, h.laid⟩

/-- What was so at a walk's beginning. -/
theorem Models.le (h : Models E0 H0 w0 E s a w) (h0 : HeapOk E0 H0 w0) : E0.Le E ∧ ∀ b, E0.F b → w.heap[b]? = w0.heap[b]? := by
  have hb := h.base
  have hl := h.heap.len
  have hl0 := h0.len
  refine ⟨⟨h.F, by omega, fun i hi => (h.old i (by omega)).2.1, fun i hi => (h.old i (by omega)).2.2.1, fun i hi => (h.old i (by omega)).2.2.2.1, fun i hi => (h.old i (by omega)).2.2.2.2⟩, fun b hF => ?_⟩
  exact h.keeps.block b (h0.frz b hF) fun ⟨id, hl, hρ⟩ => h0.fr id b hl hρ hF

theorem bare_unf {o : Obj} (h : bare o) : unf o := by cases o <;> first | exact trivial | exact h.elim

theorem Models.newRaw (h : Models E0 H0 w0 E s a w) {o : Obj} (ho : bare o) : Models E0 H0 w0 (E.new (some w.heap.size) 0 0 0) { s with hp := s.hp ++ [.raw o] } a (w.alloc o) := by
  have hN := h.heap.len
  refine h.newObj (Same.alloc w o (bare_unf ho)) (r := some w.heap.size) (sg := 0) (kp := 0) (om := 0) (ob := .raw o) (fun b hb => by cases hb; exact ⟨Nat.le_refl _, by simp⟩) ?_
  refine ⟨ho, w.heap.size, new_ρ hN _ _ _ _, ?_, new_ω hN _ _ _ _, new_σ hN _ _ _ _⟩
  exact World.alloc_heap_new w o

theorem only_putObj {g : Nat} {o o' : Obj} (hg : w.heap[g]? = some o) (ho : bare o) (ho' : bare o') : Only g w (w.putObj g o') := by
  have hlt : g < w.heap.size := (Array.getElem?_eq_some_iff.1 hg).1
  refine ⟨rfl, rfl, rfl, by simp, fun b hne => World.putObj_heap_other hne, fun ad => ?_⟩
  unfold World.frozen?
  by_cases hab : ad.block = g
  · rw [hab, World.putObj_heap_same hlt, hg]
    cases o <;> cases o' <;> first | rfl | exact ho.elim | exact ho'.elim
  · rw [World.putObj_heap_other hab]

theorem Models.putRaw (h : Models E0 H0 w0 E s a w) {id g : Nat} {o o' : Obj} (hid : s.hp[id]? = some (.raw o)) (hg : E.ρ id = some g) (ho' : bare o') : Models E0 H0 w0 E { s with hp := s.hp.set id (.raw o') } a (w.putObj g o') := by
  obtain ⟨hb, k, g0, g1, g2, g3⟩ := h.heap.obj id _ hid
  rw [hg] at g0; cases g0
  exact h.writeObj hid (by simp) hg (only_putObj g1 hb ho') ⟨ho', g, hg, World.putObj_heap_same (Array.getElem?_eq_some_iff.1 g1).1, g2, g3⟩

theorem live_kill {H : List AObj} {id i : Nat} (h : Live (H.set id .dead) i) : i ≠ id ∧ Live H i := by
  obtain ⟨o, ho, hn⟩ := h
  rw [List.getElem?_set] at ho
  split at ho
  · rename_i e
    split at ho
    · cases ho; exact absurd rfl hn
    · cases ho
  · rename_i e; exact ⟨fun e' => e e'.symm, o, ho, hn⟩

/-- An object is given up. -/
theorem Models.kill (h : Models E0 H0 w0 E s a w) (id : Nat) : Models E0 H0 w0 E { s with hp := s.hp.set id .dead } a w := by
  refine ⟨h.size, h.tmps, ⟨by rw [List.length_set]; exact h.heap.len, fun i o ho => ?_, fun i b hl hb => h.heap.lt i b (live_kill hl).2 hb, fun i b hl hb => h.heap.fr i b (live_kill hl).2 hb,
    fun i j b hi hj => h.heap.inj i j b (live_kill hi).2 (live_kill hj).2, h.heap.frz⟩, ⟨h.base.1, by rw [List.length_set]; exact h.base.2⟩, fun i hi => ?_, fun i b hi hl hb => h.new i b hi (live_kill hl).2 hb, h.F, h.Fnew, h.keeps, h.laid⟩
  · rw [List.getElem?_set] at ho
    split at ho
    · split at ho
      · cases ho; trivial
      · cases ho
    · exact h.heap.obj i o ho
  · obtain ⟨a1, a2⟩ := h.old i hi
    exact ⟨fun hl => a1 (live_kill hl).2, a2⟩

theorem Models.rebase (h : Models E0 H0 w0 E s a w) {b : Nat} (hb : b = s.base) : Models E0 H0 w0 E { s with base := b } a w := by subst hb; exact h

/-! ### a round's temporaries -/

def chP : List Nat → List AV → List (Nat × AV) → List (Nat × AV)
  | p :: ps, v :: vs, ch => chP ps vs ((p, v) :: ch)
  | _, _, ch => ch

theorem chP_rep {n : Nat} : ∀ (ps : List Nat) (vs : List AV) (xs : List Value) (ch : List (Nat × AV)) (tm : Array Value), (ps.all fun p => Nat.blt p n) = true → vs.length = ps.length → xs.length = ps.length →
    (∀ (i : Nat) c, vs[i]? = some c → Rep E w c (xs.getD i default)) → tm.size = n → (∀ t, Rep E w (look ch t) (tm.getD t undef)) →
    ((ps.zip xs).foldl (fun tmps (t, x) => tmps.setIfInBounds t x) tm).size = n ∧ ∀ t, Rep E w (look (chP ps vs ch) t) (((ps.zip xs).foldl (fun tmps (t, x) => tmps.setIfInBounds t x) tm).getD t undef)
  | [], [], [], ch, tm, _, _, _, _, hn, ht => ⟨hn, ht⟩
  | p :: ps, v :: vs, x :: xs, ch, tm, hp, hv, hx, hr, hn, ht => by
    rw [List.all_cons, Bool.and_eq_true] at hp
    have hpn : p < n := Nat.le_of_ble_eq_true hp.1
    refine chP_rep ps vs xs ((p, v) :: ch) (tm.setIfInBounds p x) hp.2 (by simpa using hv) (by simpa using hx) (fun i c hi => ?_) (by simpa using hn) (fun t => ?_)
    · have := hr (i + 1) c (by simpa using hi)
      simpa using this
    · show Rep E w (bif Nat.beq p t then v else look ch t) _
      by_cases he : p = t
      · subst he
        have h0 := hr 0 v rfl
        have : (tm.setIfInBounds p x).getD p undef = x := by simp [Array.getD, hn, hpn]
        rw [this]
        simpa using h0
      · have : Nat.beq p t = false := by
          cases hb : Nat.beq p t with
          | false => rfl
          | true => exact absurd (Nat.eq_of_beq_eq_true hb) he
        rw [this]
        have e : (tm.setIfInBounds p x).getD t undef = tm.getD t undef := by
          rw [Array.getD_eq_getD_getElem?, Array.getD_eq_getD_getElem?, Array.getElem?_setIfInBounds_ne he]
        rw [e]; exact ht t
  | [], _ :: _, _, _, _, _, hv, _, _, _, _ => by simp at hv
  | [], [], _ :: _, _, _, _, _, hx, _, _, _ => by simp at hx
  | _ :: _, [], _, _, _, _, hv, _, _, _, _ => by simp at hv
  | _ :: _, _ :: _, [], _, _, _, _, hx, _, _, _ => by simp at hx

end
end Go.Av

namespace Go.Av

/-- A loop's record, by its state and its pending jump. -/
structure LoopR (R : LoopState → Option Code → Loop) (tm : Array Value) (ps : Array Tmp) (assign body : Code) : Prop where
  st : ∀ s p, (R s p).state = s
  pd : ∀ s p, (R s p).pending = p
  tm : ∀ s p, (R s p).tmps = tm
  ps : ∀ s p, (R s p).params = ps
  as : ∀ s p, (R s p).assign = assign
  bd : ∀ s p, (R s p).body = body
  up : ∀ s p s' p', { R s p with state := s', pending := p' } = R s' p'

/-- What an iterator's walk knows of the loop. -/
def itX (lid l : Nat) (so : St) (tm : Array Value) : Ctx := ⟨none, [], fun E0 H0 w0 => HeapOk E0 H0 w0 ∧ E0.ρ lid = some l ∧ lid < H0.length ∧ tm.size = so.n ∧ ∀ t, Rep E0 w0 (look so.ch t) (tm.getD t undef)⟩
def rnX (l : Nat) : Ctx := ⟨some l, [], fun _ _ _ => True⟩
def afX (k : Nat) : Ctx := ⟨none, [{ target := .collected k, args := #[] }], fun E0 H0 w0 => w0.heap[k]? = some (.deferred (some [])) ∧ ¬ Owned E0 H0 k ∧ ¬ E0.F k⟩

section
variable {P : Program} {T : TT} {own : Nat → Bool}

/-- A round is left. -/
def rnQ (P : Program) (T : TT) (own : Nat → Bool) (ops : Array Oper) (lid : Nat) (R : LoopState → Option Code → Loop) (o : Oper) (post : List Oper) (K : St → Prop) (s1 : St) (e : Exit) (sb : St) : Prop :=
  sb.hp[lid]? = some (.raw (.loop (R .busy none))) ∧
  match e with
  | .normal => ∃ s2, ({ s1 with hp := sb.hp.set lid (.raw (.loop (R .ready none))), cond := True } : St).setd o.dst (.bool true) = some s2 ∧ regv P T own ops post K s2
  | .ret => ∃ s2, ({ s1 with hp := sb.hp.set lid (.raw (.loop (R .done (some .ret)))), cond := True } : St).setd o.dst (.bool false) = some s2 ∧ regv P T own ops post K s2
  | .exit id => ∃ s2, ({ s1 with hp := sb.hp.set lid (.raw (.loop (R .done (some (.exit id))))), cond := True } : St).setd o.dst (.bool false) = some s2 ∧ regv P T own ops post K s2
  | _ => False

/-- .. is begun. -/
def asQ (P : Program) (T : TT) (own : Nat → Bool) (ops : Array Oper) (lid l : Nat) (R : LoopState → Option Code → Loop) (body : Code) (o : Oper) (post : List Oper) (K : St → Prop) (s1 : St) (e : Exit) (sa : St) : Prop :=
  e = .normal ∧ sa.hp[lid]? = some (.raw (.loop (R .ready none))) ∧ Wp P (rnX l) body (rnQ P T own ops lid R o post K s1) { sa with hp := sa.hp.set lid (.raw (.loop (R .busy none))) }

/-- yield is called. -/
def yieldK (P : Program) (T : TT) (own : Nat → Bool) (ops : Array Oper) (lid l : Nat) (so : St) (R : LoopState → Option Code → Loop) (ps : Array Tmp) (assign body : Code) (o : Oper) (post : List Oper) (K : St → Prop) (s1 : St) : Prop :=
  o.guard = none ∧ ∃ c f, o.op = .call c ∧ c.callee = .value f ∧ s1.ev f = .yld l ∧ c.args.toList.length = ps.toList.length ∧ (ps.toList.all fun p => Nat.blt p so.n) = true ∧ s1.hp[lid]? = some (.raw (.loop (R .ready none))) ∧ lid < s1.base ∧
    Wp P (rnX l) assign (asQ P T own ops lid l R body o post K s1) { ch := chP ps.toList (c.args.toList.map s1.ev) so.ch, hp := s1.hp, base := s1.hp.length, n := so.n, cond := True, gl := s1.gl }

theorem regv_sound2 {X : Ctx} {E0 : Env} {H0 : List AObj} {w0 : World} (hT : TTOk P T) {ops : Array Oper} {K : St → Prop} {Q : Exit → Act → World → Prop} {rest : List Nat} (hK : ∀ s E a w, K s → DO X E0 H0 w0 a → Models E0 H0 w0 E s a w → wpOpsIn (fen X) 0 P ops Q rest a w) :
    ∀ (l l2 : List Oper) (i : Nat), ops.toList.drop i = l ++ l2 → ∀ {s : St} {E : Env} {a : Act} {w : World}, regv P T own ops l K s → DO X E0 H0 w0 a → Models E0 H0 w0 E s a w →
      wpOpsIn (fen X) 0 P ops Q (List.range' i l.length ++ rest) a w
  | [], l2, i, hl, s, E, a, w, hr, hd, h => hK s E a w hr hd h
  | o :: os, l2, i, hl, s, E, a, w, hr, hd, h => by
    have hi : i < ops.size := by
      have := congrArg List.length hl
      simp at this; omega
    have hoi : ops[i]? = some o := by
      have : (ops.toList.drop i)[0]? = some o := by rw [hl]; rfl
      simpa using this
    have hos : ops.toList.drop (i + 1) = os ++ l2 := by
      have := congrArg List.tail hl
      simpa using this
    rw [show List.range' i (o :: os).length = i :: List.range' (i + 1) os.length from rfl]
    simp only [List.cons_append, wpOpsIn, hoi]
    obtain ⟨s2, hrl, g, hg, hr⟩ := hr
    obtain ⟨E2, h⟩ := h.relocs hrl
    have hw := guardA_sound h hg
    rw [hw]
    cases g with
    | true =>
      simp only [if_true] at hr ⊢
      exact (opv_sound hT hr h fun s' E' v w' hK' hm => regv_sound2 hT hK os l2 (i + 1) hos hK' (hd.put _ _) hm)
    | false =>
      simp only [Bool.false_eq_true, if_false] at hr ⊢
      obtain ⟨s', hs', hr⟩ := hr
      refine ⟨fun _ _ => trivial, ?_⟩
      exact regv_sound2 hT hK os l2 (i + 1) hos hr (hd.put _ _) (h.setd hs' Rep.gone)

theorem LoopR.begin {R : LoopState → Option Code → Loop} {tm : Array Value} {ps : Array Tmp} {assign body : Code} (h : LoopR R tm ps assign body) : ({ R .ready none with state := .busy } : Loop) = R .busy none := by
  have h1 := h.up .ready none .busy none
  have h2 := h.pd .ready none
  rw [← h1]
  generalize R .ready none = r at h2 ⊢
  cases r
  simp only at h2
  subst h2; rfl

theorem Fin.round {l : Nat} {e : Exit} {E0 : Env} {H0 : List AObj} {w0 : World} {a : Act} {w wq : World} (h : Fin (rnX l) e E0 H0 w0 a w wq) : DO (rnX l) E0 H0 w0 a ∧ wq = w := by
  rcases h with h | ⟨_, h, _⟩
  · exact h
  · cases h

theorem rawAt {E : Env} {H : List AObj} {w : World} (h : HeapOk E H w) {id k : Nat} {o : Obj} (hid : H[id]? = some (.raw o)) (hk : E.ρ id = some k) : w.heap[k]? = some o := by
  obtain ⟨_, k', g0, g1, _⟩ := h.obj id _ hid
  rw [hk] at g0; cases g0
  exact g1

/-- A region that calls yield. -/
theorem Wp.regY (hT : TTOk P T) {lid l : Nat} {so : St} {tm : Array Value} {R : LoopState → Option Code → Loop} {ps : Array Tmp} {assign body : Code} (hR : LoopR R tm ps assign body) {id : Nat} {ops : Array Oper} {pre post : List Oper} {o : Oper} {Q : Exit → St → Prop} {s : St}
    (hops : ops.toList = pre ++ o :: post) (h : regv P T own ops pre (yieldK P T own ops lid l so R ps assign body o post (Q .normal)) s) : Wp P (itX lid l so tm) (.region id ops false) Q s := fun E0 H0 w0 E a w hd hm => by
  refine wpIn_region ?_
  have hsz : ops.size = pre.length + (1 + post.length) := by
    have := congrArg List.length hops
    simp at this; omega
  have hrange : List.range ops.size = List.range' 0 pre.length ++ (pre.length :: List.range' (pre.length + 1) post.length) := by
    rw [List.range_eq_range', hsz, ← List.range'_append_1, Nat.add_comm 1 post.length]
    simp [List.range'_succ]
  rw [hrange]
  refine regv_sound2 hT (fun s1 E1 a1 w1 hk hd1 hm1 => ?_) pre (o :: post) 0 (by simpa using hops) h hd hm
  have hoi : ops[pre.length]? = some o := by
    have : ops.toList[pre.length]? = some o := by rw [hops]; simp
    simpa using this
  simp only [wpOpsIn, hoi]
  obtain ⟨hg, c, f, ho, hcal, hev, hlen, hps, hobj, hlt, hwp⟩ := hk
  have hw : Region.wanted o (yielded ops a1.tmps) = true := by simp [Region.wanted, hg]
  rw [if_pos hw]
  refine ⟨fun _ _ => trivial, ?_⟩
  rw [Oper.semAt_eq _ _ _ (by intro c' hc; rw [ho] at hc; cases hc)]
  have hf : a1.eval f = .func (.yield l) #[] #[] := by
    have := hm1.ev f
    rw [hev] at this
    generalize a1.eval f = x at this
    cases this with
    | fz _ _ h => cases h; rfl
  obtain ⟨hh0, hρ0, hl0, htm, htr⟩ := hd1.1
  have hρ : E1.ρ lid = some l := by rw [(hm1.old lid hlt).2.1]; exact hρ0
  have g1 := rawAt hm1.heap hobj hρ
  have hsize : (Array.map a1.eval c.args).size = (R .ready none).params.size := by
    rw [hR.ps, Array.size_map]; simpa using hlen
  have hrun : (execOp a1.eval o).run P w1 = .ok (.round l (R .ready none).fn ((ps.zip (Array.map a1.eval c.args)).foldl (fun tmps (t, a) => tmps.setIfInBounds t a) tm) assign body) w1 := by
    have := run_yield (P := P) g1 hsize
    rw [hR.ps, hR.tm, hR.as, hR.bd] at this
    simp [execOp, ho, resolve, hcal, hf, Deferred.ofValue, invoke, this, Result.andThen]
  rw [hrun, Oper.uponIn_round]
  refine ⟨nodepth _, roundIn_of_wpIn trivial ?_⟩
  have hfold : (ps.zip (Array.map a1.eval c.args)).foldl (fun tmps (t, a) => tmps.setIfInBounds t a) tm = (ps.toList.zip (c.args.toList.map a1.eval)).foldl (fun tmps (t, a) => tmps.setIfInBounds t a) tm := by
    rw [← Array.foldl_toList]; simp
  rw [hfold]
  have hle := hm1.le hh0
  have hframe := chP_rep (E := E1) (w := w1) ps.toList (c.args.toList.map s1.ev) (c.args.toList.map a1.eval) so.ch tm hps (by simpa using hlen) (by simpa using hlen) (fun i cc hi => by
    obtain ⟨x, hx, rfl⟩ := getElem?_map_some hi
    have := hm1.ev x
    simp only [List.getD, List.getElem?_map, hx, Option.map_some, Option.getD_some]; exact this) htm (fun t => (htr t).mono hle.1 hle.2)
  have hm2 := hm1.restart.frame (a' := { tmps := (ps.toList.zip (c.args.toList.map a1.eval)).foldl (fun tmps (t, a) => tmps.setIfInBounds t a) tm, defers := [] }) hframe.1 hframe.2
  refine wpIn_mono (hwp E1 s1.hp w1 E1 _ w1 ⟨trivial, rfl⟩ (hm2.cond True)) fun e a2 w2 hq => ?_
  obtain ⟨wq, hfin, sa, E2, ⟨rfl, hob2, hwp2⟩, hm3⟩ := hq
  obtain ⟨hd2, rfl⟩ := hfin.round
  have hlt2 : lid < s1.hp.length := get_lt hobj
  have hρ2 : E2.ρ lid = some l := by rw [(hm3.old lid (by rw [hm3.base.1]; exact hlt2)).2.1]; exact hρ
  have hb2 := rawAt hm3.heap hob2 hρ2
  refine ⟨_, run_beginRound hb2 (hR.st _ _), ?_⟩
  rw [hR.begin]
  have hm4 := hm3.putRaw hob2 hρ2 (o' := .loop (R .busy none)) trivial
  refine wpIn_mono (hwp2 E1 s1.hp w1 E2 a2 _ hd2 hm4) fun e a3 w3 hq => ?_
  obtain ⟨wq, hfin, sb, E3, ⟨hob3, hq⟩, hm5⟩ := hq
  obtain ⟨hd3, rfl⟩ := hfin.round
  have hρ3 : E3.ρ lid = some l := by rw [(hm5.old lid (by rw [hm5.base.1]; exact hlt2)).2.1]; exact hρ
  have hb3 := rawAt hm5.heap hob3 hρ3
  have back : ∀ (st : LoopState) (pd : Option Code) (b : Bool) (s2 : St), ({ s1 with hp := sb.hp.set lid (.raw (.loop (R st pd))), cond := True } : St).setd o.dst (.bool b) = some s2 → regv P T own ops post (Q .normal) s2 →
      wpOpsIn (fen (itX lid l so tm)) 0 P ops (MQ (itX lid l so tm) E0 H0 w0 Q) (List.range' (pre.length + 1) post.length) (a1.put o.dst (.bool b)) (wq.putObj l (.loop (R st pd))) := by
    intro st pd b s2 hs2 hreg
    have hm6 := hm5.putRaw hob3 hρ3 (o' := .loop (R st pd)) trivial
    have hle6 := hm6.le hm1.heap
    have hm7 := ((hm1.comp hm6).frame (ch := s1.ch) (n := s1.n) (a' := a1) hm1.size (fun t => (hm1.tmps t).mono hle6.1 hle6.2)).cond True
    have hm8 := hm7.setd hs2 (.fz _ _ (.bool b))
    have := regv_sound2 (X := itX lid l so tm) (E0 := E0) (H0 := H0) (w0 := w0) (K := Q .normal) (Q := MQ (itX lid l so tm) E0 H0 w0 Q) (rest := []) (ops := ops) hT (fun s E a w hk hd hm => by simp only [wpOpsIn]; exact MQ.of hd hk hm) post [] (pre.length + 1) (by
      rw [hops, List.append_nil, ← List.drop_drop, List.drop_left]; rfl) hreg (hd1.put o.dst _) hm8
    rw [List.append_nil] at this
    exact this
  cases e with
  | normal =>
    obtain ⟨s2, hs2, hreg⟩ := hq
    have he := run_endRound (P := P) none hb3
    rw [hR.up] at he
    exact ⟨_, _, he, back _ _ _ _ hs2 hreg⟩
  | ret =>
    obtain ⟨s2, hs2, hreg⟩ := hq
    have he := run_endRound (P := P) (some .ret) hb3
    rw [hR.up] at he
    exact ⟨_, _, he, back _ _ _ _ hs2 hreg⟩
  | exit i =>
    obtain ⟨s2, hs2, hreg⟩ := hq
    have he := run_endRound (P := P) (some (.exit i)) hb3
    rw [hR.up] at he
    exact ⟨_, _, he, back _ _ _ _ hs2 hreg⟩
  | _ => exact hq.elim

end
end Go.Av

/- The Av framework: an operation is sound; calls. No law is proved here. -/
import Derived.Test.YtgbgmijighbfbaaGv13
set_option linter.unusedSimpArgs false
set_option linter.unusedVariables false
set_option linter.unusedSectionVars false
namespace Go.Av

section
variable {E0 : Env} {H0 : List AObj} {w0 : World} {E : Env} {s s' : St} {a : Act} {w : World} {P : Program} {T : TT} {o : Oper} {own : Nat → Bool}

theorem opf_sound (hT : TTOk P T) (h : Models E0 H0 w0 E s a w) (hf : opf T own o s = some s') (hc : s'.cond) : s.cond ∧ Done P o E0 H0 w0 s' a w := by
  unfold opf at hf
  split at hf
  · exact opMove_sound h (.inl (by assumption)) hf hc
  · exact opMove_sound h (.inr (by assumption)) hf hc
  · split at hf
    · exact opPick_sound h (by assumption) (by assumption) hf hc
    · cases hf
  · rw [Option.bind_eq_some_iff] at hf
    obtain ⟨ts, hts, hf⟩ := hf
    exact opAlloc_sound hT h (by assumption) hts hf hc
  · cases hb : (cellsOf (s.ev ‹_›)).all isCell with
    | false => rw [hb] at hf; cases hf
    | true => rw [hb] at hf; exact opBox_sound h (by assumption) hb hf hc
  · exact opLoad_sound hT h (by assumption) hf hc
  · split at hf
    · exact opStore_sound hT h (by assumption) (by assumption) hf hc
    · cases hf
  · exact opFieldAddr_sound hT h (by assumption) hf hc
  · exact opField_sound hT h (by assumption) hf hc
  · exact opIndexAddr_sound hT h (by assumption) hf hc
  · exact opIndex_sound hT h (by assumption) hf hc
  · exact opBuild_sound hT h (by assumption) hf hc
  · exact opBuildSlice_sound hT h (by assumption) hf hc
  · exact opMakeSlice_sound hT h (by assumption) hf hc
  · exact opSlice_sound hT h (by assumption) hf hc
  · exact opBin_sound hT h (by assumption) hf hc
  · exact opUn_sound h (by assumption) hf hc
  · exact opConvert_sound hT h (by assumption) hf hc
  · exact opExtract_sound h (by assumption) hf hc
  · exact opMakeInterface_sound hT h (by assumption) hf hc
  · exact opMakeMap_sound hT h (by assumption) hf hc
  · exact opLookup_sound hT h (by assumption) hf hc
  · split at hf
    · exact opMapUpdate_sound hT h (.inl (by assumption)) (by assumption) hf hc
    · cases hf
  · split at hf
    · exact opMapUpdate_sound hT h (.inr (by assumption)) (by assumption) hf hc
    · cases hf
  · split at hf
    · exact opLen_sound hT h (by assumption) (by assumption) (by assumption) (by assumption) hf hc
    · exact opAppend_sound hT h (by assumption) (by assumption) (by assumption) (by assumption) hf hc
    · exact opCopy_sound hT h (by assumption) (by assumption) (by assumption) (by assumption) hf hc
    · cases hf
  · cases hf

end

/-! ### calls -/

structure After (E : Env) (H : List AObj) (w : World) (E' : Env) (H' : List AObj) (w' : World) : Prop where
  heap : HeapOk E' H' w'
  keeps : Keeps (Owned E H) w w'
  F : ∀ b, E.F b → E'.F b
  Fnew : ∀ b, E'.F b → E.F b ∨ w.heap.size ≤ b
  len : H.length ≤ H'.length
  old : ∀ id, id < H.length → Live H' id → Live H id ∧ E'.ρ id = E.ρ id ∧ E'.σ id = E.σ id ∧ E'.κ id = E.κ id ∧ E'.ω id = E.ω id
  new : ∀ id b, H.length ≤ id → Live H' id → E'.ρ id = some b → w.heap.size ≤ b

def ArgsRep (E : Env) (w : World) (args : List AV) (vals : List Value) : Prop :=
  vals.length = args.length ∧ ∀ (i : Nat) c, args[i]? = some c → Rep E w c (vals.getD i default)

/-- The contract of a function at abstract values. -/
def CallsA (P : Program) (f : FuncId) (args : List AV) (H : List AObj) (K : AV → List AObj → Prop) : Prop :=
  ∀ (E : Env) (w : World) (vals : List Value), HeapOk E H w → ArgsRep E w args vals →
    Calls P f vals.toArray w fun e w' => match e with
      | .returned x => ∃ r H' E', K r H' ∧ Rep E' w' r x ∧ After E H w E' H' w'
      | _ => False

theorem CallsA.mono {P : Program} {f : FuncId} {args : List AV} {H : List AObj} {K K' : AV → List AObj → Prop} (h : CallsA P f args H K) (hk : ∀ r H', K r H' → K' r H') : CallsA P f args H K' :=
  fun E w vals hh ha => (h E w vals hh ha).mono fun e w' he => by
    cases e with
    | returned x => obtain ⟨r, H', E', k, rest⟩ := he; exact ⟨r, H', E', hk _ _ k, rest⟩
    | _ => exact he

/-! ### references moved by a number -/

def shift0 (n : Nat) : AV → AV
  | .sl i b l => .sl (n + i) b l
  | .hptr i x o => .hptr (n + i) x o
  | .mp i => .mp (n + i)
  | .agg _ => .undef
  | .tup _ => .undef
  | .clos _ _ _ => .undef
  | v => v

def shift1 (n : Nat) : AV → AV
  | .agg cs => .agg (cs.map (shift0 n))
  | .tup _ => .undef
  | .clos f a b => .clos f (a.map (shift0 n)) (b.map (shift0 n))
  | v => shift0 n v

def shift (n : Nat) : AV → AV
  | .tup vs => .tup (vs.map (shift1 n))
  | v => shift1 n v

structure Env.Shift (n : Nat) (E E' : Env) : Prop where
  F : ∀ b, E.F b → E'.F b
  N : E'.N = n + E.N
  ρ : ∀ i, i < E.N → E'.ρ (n + i) = E.ρ i
  σ : ∀ i, i < E.N → E'.σ (n + i) = E.σ i
  κ : ∀ i, i < E.N → E'.κ (n + i) = E.κ i
  ω : ∀ i, i < E.N → E'.ω (n + i) = E.ω i

theorem Rep.shift0 {E E' : Env} {w : World} {n : Nat} {v : AV} {x : Value} (h : Rep E w v x) (hE : E.Shift n E') : Rep E' w (shift0 n v) x := by
  cases h with
  | undef x => exact .undef x
  | fz v x h =>
    have h' : RepF E'.F w v x := h.mono hE.F (fun _ _ => rfl)
    cases h <;> exact .fz _ _ h'
  | sl i b l av hi hle ha =>
    rw [← hE.κ i hi]
    exact .sl (n + i) b l av (by rw [hE.N]; omega) (by rw [hE.κ i hi]; exact hle) (by rw [hE.κ i hi, hE.ρ i hi, hE.σ i hi, hE.ω i hi]; exact ha)
  | hptr i x o b hi hb =>
    rw [← hE.σ i hi, ← hE.ω i hi]
    exact .hptr (n + i) x o b (by rw [hE.N]; omega) (by rw [hE.ρ i hi]; exact hb)
  | mp i b hi hb => exact .mp (n + i) b (by rw [hE.N]; omega) (by rw [hE.ρ i hi]; exact hb)
  | agg | tup | clos => exact .undef _

theorem Rep.shift1 {E E' : Env} {w : World} {n : Nat} {v : AV} {x : Value} (h : Rep E w v x) (hE : E.Shift n E') : Rep E' w (shift1 n v) x := by
  cases h with
  | agg cells vs hn h =>
    exact .agg _ vs (by simpa using hn) fun i c hc => by
      obtain ⟨a, ha, rfl⟩ := getElem?_map_some hc
      exact (h i a ha).shift0 hE
  | tup => exact .undef _
  | clos f a c xa xc ha hc h1 h2 =>
    exact .clos f _ _ xa xc (by simpa using ha) (by simpa using hc)
      (fun i c hc => by obtain ⟨a, ha, rfl⟩ := getElem?_map_some hc; exact (h1 i a ha).shift0 hE)
      (fun i c hc => by obtain ⟨a, ha, rfl⟩ := getElem?_map_some hc; exact (h2 i a ha).shift0 hE)
  | undef x => exact .undef x
  | fz v x h => have := (Rep.fz (E := E) v x h).shift0 hE; cases h <;> exact this
  | sl i b l av hi hle ha => exact (Rep.sl (E := E) (w := w) i b l av hi hle ha).shift0 hE
  | hptr i x o b hi hb => exact (Rep.hptr (E := E) (w := w) i x o b hi hb).shift0 hE
  | mp i b hi hb => exact (Rep.mp (E := E) (w := w) i b hi hb).shift0 hE

theorem Rep.shift {E E' : Env} {w : World} {n : Nat} {v : AV} {x : Value} (h : Rep E w v x) (hE : E.Shift n E') : Rep E' w (shift n v) x := by
  cases h with
  | tup cells vs hn h =>
    exact .tup _ vs (by simpa using hn) fun i c hc => by
      obtain ⟨a, ha, rfl⟩ := getElem?_map_some hc
      exact (h i a ha).shift1 hE
  | agg cells vs hn h => exact (Rep.agg (E := E) (w := w) cells vs hn h).shift1 hE
  | clos f a c xa xc ha hc h1 h2 => exact (Rep.clos (E := E) (w := w) f a c xa xc ha hc h1 h2).shift1 hE
  | undef x => exact .undef x
  | fz v x h => have := (Rep.fz (E := E) v x h).shift1 hE; cases h <;> exact this
  | sl i b l av hi hle ha => exact (Rep.sl (E := E) (w := w) i b l av hi hle ha).shift1 hE
  | hptr i x o b hi hb => exact (Rep.hptr (E := E) (w := w) i x o b hi hb).shift1 hE
  | mp i b hi hb => exact (Rep.mp (E := E) (w := w) i b hi hb).shift1 hE

/-- A value that is known without memory. -/
def isScalar0 : AV → Bool
  | .bool _ | .int _ _ | .str _ | .nilptr | .nilmap | .nilif | .nilfn | .nilsl | .zsl => true
  | _ => false

def isScalar : AV → Bool
  | .tup vs => vs.all isScalar0
  | v => isScalar0 v

theorem Rep.scalar0 {E E' : Env} {w w' : World} {v : AV} {x : Value} (h : Rep E w v x) (hv : isScalar0 v = true) : Rep E' w' v x := by
  cases v <;> simp [isScalar0] at hv <;> (cases h with | fz _ _ h => cases h; first | exact .fz _ _ (.bool _) | exact .fz _ _ (.int _ _) | exact .fz _ _ (.str _) | exact .fz _ _ .nilptr | exact .fz _ _ .nilmap | exact .fz _ _ .nilif | exact .fz _ _ .nilfn | exact .fz _ _ .nilsl | exact .fz _ _ (.zsl _))

theorem Rep.scalar {E E' : Env} {w w' : World} {v : AV} {x : Value} (h : Rep E w v x) (hv : isScalar v = true) : Rep E' w' v x := by
  cases v with
  | tup vs =>
    cases h with
    | fz _ _ h => cases h
    | tup _ xs hn hr => exact .tup vs xs hn fun i c hc => (hr i c hc).scalar0 (List.all_eq_true.1 hv c (List.mem_of_getElem? hc))
  | _ => exact h.scalar0 hv

theorem shift_scalar {n : Nat} {v : AV} (hv : isScalar v = true) : shift n v = v := by
  cases v with
  | tup vs =>
    show AV.tup (vs.map (shift1 n)) = _
    congr 1
    have : ∀ c ∈ vs, shift1 n c = c := fun c hc => by
      have := List.all_eq_true.1 hv c hc
      cases c <;> first | rfl | simp [isScalar0] at this
    exact (List.map_congr_left this).trans (List.map_id _)
  | _ => first | rfl | simp [isScalar, isScalar0] at hv

/-! ### arguments -/

/-- An argument as the callee sees it; the condition; whether it is lent. -/
def toArg0 (hp : List AObj) : AV → Option (AV × Prop × Bool)
  | .sl id b n => match hp[id]? with
    | some (.arr _ m row) => some (.list n (fz n (dropRow b row)), b + n ≤ m, true)
    | _ => none
  | .nilsl => some (.list 0 (rw []), True, false)
  | .zsl => some (.list 0 (rw []), True, false)
  | .undef | .hptr _ _ _ | .mp _ | .agg _ | .tup _ => none
  | .clos f a c => bif a.all isFree && c.all isFree then some (.clos f a c, True, false) else none
  | v => some (v, True, false)

def toArgs0 (hp : List AObj) : List AV → Option (List AV × Prop × Bool)
  | [] => some ([], True, false)
  | v :: vs => (toArg0 hp v).bind fun p => (toArgs0 hp vs).bind fun q => some (p.1 :: q.1, p.2.1 ∧ q.2.1, p.2.2 || q.2.2)

def toArg (hp : List AObj) : AV → Option (AV × Prop × Bool)
  | .agg cs => (toArgs0 hp cs).bind fun p => some (.agg p.1, p.2.1, p.2.2)
  | v => toArg0 hp v

def toArgs (hp : List AObj) : List AV → Option (List AV × Prop × Bool)
  | [] => some ([], True, false)
  | v :: vs => (toArg hp v).bind fun p => (toArgs hp vs).bind fun q => some (p.1 :: q.1, p.2.1 ∧ q.2.1, p.2.2 || q.2.2)

/-- What the callee may take for frozen. -/
def Lent (E : Env) (hp : List AObj) (b : Nat) : Prop := E.F b ∨ Owned E hp b

section
variable {E0 : Env} {H0 : List AObj} {w0 : World} {E : Env} {s s' : St} {a : Act} {w : World} {P : Program} {T : TT} {o : Oper} {own : Nat → Bool}

/-- The environment in which a callee begins that is handed no reference. -/
def calleeEnv (E : Env) (hp : List AObj) (lent : Bool) : Env := { E with F := fun b => if lent = true then Lent E hp b else E.F b, N := 0 }

theorem calleeEnv_F (E : Env) (hp : List AObj) (lent : Bool) (b : Nat) (h : E.F b) : (calleeEnv E hp lent).F b := by
  show (if lent = true then Lent E hp b else E.F b)
  split
  · exact .inl h
  · exact h

theorem arg0_rep (h : HeapOk E s.hp w) {v : AV} {x : Value} (hx : Rep E w v x) {p : AV × Prop × Bool} (hp : toArg0 s.hp v = some p) (hc : p.2.1) {lent : Bool} (hl : p.2.2 = true → lent = true) :
    Rep (calleeEnv E s.hp lent) w p.1 x := by
  have free : isFree v = true → p.1 = v → Rep (calleeEnv E s.hp lent) w p.1 x := fun hf e => by
    rw [e]; exact .fz _ _ ((hx.toF hf).mono (fun b hb => calleeEnv_F E s.hp lent b hb) (fun _ _ => rfl))
  cases v with
  | sl id b n =>
    simp only [toArg0] at hp
    split at hp
    · rename_i sz m row hid
      simp only [Option.some.injEq] at hp; subst hp
      have hlt := hl rfl
      subst hlt
      obtain ⟨g1, g2, g3, g4, g5, g6⟩ := h.obj id _ hid
      cases hx with
      | fz _ _ hx => cases hx
      | sl _ _ _ av hi hle ha =>
        simp only at hc
        refine .fz _ _ (RepF.fz ?_)
        by_cases hn : n = 0
        · subst hn; exact .empty _ _ _
        · have hav := ha (by omega)
          cases hρ : E.ρ id with
          | none => rw [hρ] at g6; omega
          | some blk =>
            rw [hρ] at g6 hav
            simp only [Option.map_some] at hav
            subst hav
            obtain ⟨arr, ty, e1, e2, e3⟩ := g6
            refine .list n _ blk _ _ sz (fun i j => arr.getD ((E.ω id + (b + i)) * sz + j) default) ?_ (by omega) (fun i hi' => g5 _ (by omega)) (fun i j c hi' hj => ?_) (fun i j c hi' hj => ?_) (fun i j c hi' hj => ?_)
            · show (if true = true then Lent E s.hp blk else E.F blk)
              rw [if_pos rfl]; exact .inr ⟨id, ⟨_, hid, by simp⟩, hρ⟩
            · obtain ⟨v, f1, f2⟩ := e3 (b + i) j c (by omega) hj
              have hlt : (E.ω id + (b + i)) * sz + j < arr.size := (Array.getElem?_eq_some_iff.1 f1).1
              simp only [World.cell?, e1, Option.isSome_none, Bool.false_eq_true, if_false]
              rw [g1, show (E.ω id + b) * sz + (i * sz + j) = (E.ω id + (b + i)) * sz + j by simp only [Nat.add_mul]; omega, Array.getElem?_eq_getElem hlt]
              simp [Array.getD, hlt]
            · obtain ⟨v, f1, f2⟩ := e3 (b + i) j c (by omega) hj
              exact f2.isFree
            · obtain ⟨v, f1, f2⟩ := e3 (b + i) j c (by omega) hj
              have hlt : (E.ω id + (b + i)) * sz + j < arr.size := (Array.getElem?_eq_some_iff.1 f1).1
              have hv : arr.getD ((E.ω id + (b + i)) * sz + j) default = v := by
                rw [Array.getElem?_eq_getElem hlt] at f1; cases f1; simp [Array.getD, hlt]
              rw [hv]; exact f2.mono (fun b hb => calleeEnv_F E s.hp true b hb) (fun _ _ => rfl)
    · cases hp
  | nilsl =>
    simp only [toArg0, Option.some.injEq] at hp; subst hp
    cases hx with
    | fz _ _ hx => cases hx; exact .fz _ _ (.empty _ _ _)
  | zsl =>
    simp only [toArg0, Option.some.injEq] at hp; subst hp
    cases hx with
    | fz _ _ hx => cases hx; exact .fz _ _ (.empty _ _ _)
  | clos f aa cc =>
    simp only [toArg0] at hp
    cases hb : (aa.all isFree && cc.all isFree) with
    | false => rw [hb] at hp; cases hp
    | true =>
      rw [hb, cond_true, Option.some.injEq] at hp; subst hp
      rw [Bool.and_eq_true] at hb
      cases hx with
      | fz _ _ hx => cases hx
      | clos _ _ _ xa xc ha hc' h1 h2 =>
        exact .clos f aa cc xa xc ha hc'
          (fun i c hi => .fz _ _ (((h1 i c hi).toF (List.all_eq_true.1 hb.1 c (List.mem_of_getElem? hi))).mono (fun b hb => calleeEnv_F E s.hp lent b hb) (fun _ _ => rfl)))
          (fun i c hi => .fz _ _ (((h2 i c hi).toF (List.all_eq_true.1 hb.2 c (List.mem_of_getElem? hi))).mono (fun b hb => calleeEnv_F E s.hp lent b hb) (fun _ _ => rfl)))
  | undef => simp [toArg0] at hp
  | hptr => simp [toArg0] at hp
  | mp => simp [toArg0] at hp
  | agg => simp [toArg0] at hp
  | tup => simp [toArg0] at hp
  | _ => simp only [toArg0, Option.some.injEq] at hp; exact free rfl (by rw [← hp])

theorem args0_rep (h : HeapOk E s.hp w) {lent : Bool} : ∀ (vs : List AV) (xs : List Value) (p : List AV × Prop × Bool), xs.length = vs.length → (∀ (i : Nat) c, vs[i]? = some c → Rep E w c (xs.getD i default)) →
    toArgs0 s.hp vs = some p → p.2.1 → (p.2.2 = true → lent = true) → xs.length = p.1.length ∧ ∀ (i : Nat) c, p.1[i]? = some c → Rep (calleeEnv E s.hp lent) w c (xs.getD i default)
  | [], xs, p, hl, hr, hp, hc, hlt => by
    simp only [toArgs0, Option.some.injEq] at hp; subst hp
    exact ⟨by simpa using hl, fun i c hi => by simp at hi⟩
  | v :: vs, [], p, hl, _, _, _, _ => by simp at hl
  | v :: vs, x :: xs, p, hl, hr, hp, hc, hlt => by
    simp only [toArgs0, Option.bind_eq_some_iff, Option.some.injEq] at hp
    obtain ⟨p1, hp1, q, hq, rfl⟩ := hp
    simp only at hc hlt
    have h0 := arg0_rep (s := s) h (hr 0 v rfl) hp1 hc.1 (lent := lent) (fun e => hlt (by rw [e]; rfl))
    obtain ⟨g1, g2⟩ := args0_rep h vs xs q (by simpa using hl) (fun i c hi => by simpa using hr (i + 1) c (by simpa using hi)) hq hc.2 (fun e => hlt (by rw [e]; simp))
    refine ⟨by simp [g1], fun i c hi => ?_⟩
    cases i with
    | zero => simp at hi; subst hi; exact h0
    | succ i => simpa using g2 i c (by simpa using hi)

theorem arg_rep (h : HeapOk E s.hp w) {v : AV} {x : Value} (hx : Rep E w v x) {p : AV × Prop × Bool} (hp : toArg s.hp v = some p) (hc : p.2.1) {lent : Bool} (hl : p.2.2 = true → lent = true) :
    Rep (calleeEnv E s.hp lent) w p.1 x := by
  cases v with
  | agg cs =>
    simp only [toArg, Option.bind_eq_some_iff, Option.some.injEq] at hp
    obtain ⟨q, hq, rfl⟩ := hp
    cases hx with
    | fz _ _ hx => cases hx
    | agg _ vs hn hr =>
      obtain ⟨g1, g2⟩ := args0_rep (s := s) h cs vs q hn hr hq hc hl
      exact .agg _ vs g1 g2
  | _ => exact arg0_rep (s := s) h hx hp hc hl

theorem args_rep (h : HeapOk E s.hp w) {lent : Bool} : ∀ (vs : List AV) (xs : List Value) (p : List AV × Prop × Bool), xs.length = vs.length → (∀ (i : Nat) c, vs[i]? = some c → Rep E w c (xs.getD i default)) →
    toArgs s.hp vs = some p → p.2.1 → (p.2.2 = true → lent = true) → ArgsRep (calleeEnv E s.hp lent) w p.1 xs
  | [], xs, p, hl, hr, hp, hc, hlt => by
    simp only [toArgs, Option.some.injEq] at hp; subst hp
    exact ⟨by simpa using hl, fun i c hi => by simp at hi⟩
  | v :: vs, [], p, hl, _, _, _, _ => by simp at hl
  | v :: vs, x :: xs, p, hl, hr, hp, hc, hlt => by
    simp only [toArgs, Option.bind_eq_some_iff, Option.some.injEq] at hp
    obtain ⟨p1, hp1, q, hq, rfl⟩ := hp
    simp only at hc hlt
    have h0 := arg_rep (s := s) h (hr 0 v rfl) hp1 hc.1 (lent := lent) (fun e => hlt (by rw [e]; rfl))
    obtain ⟨g1, g2⟩ := args_rep h vs xs q (by simpa using hl) (fun i c hi => by simpa using hr (i + 1) c (by simpa using hi)) hq hc.2 (fun e => hlt (by rw [e]; simp))
    refine ⟨by simp [g1], fun i c hi => ?_⟩
    cases i with
    | zero => simp at hi; subst hi; exact h0
    | succ i => simpa using g2 i c (by simpa using hi)

theorem calleeEnv_ok (h : HeapOk E s.hp w) (lent : Bool) : HeapOk (calleeEnv E s.hp lent) [] w where
  len := rfl
  obj id o ho := by simp at ho
  lt id b hl := by obtain ⟨o, ho, _⟩ := hl; simp at ho
  fr id b hl := by obtain ⟨o, ho, _⟩ := hl; simp at ho
  inj i j b hi := by obtain ⟨o, ho, _⟩ := hi; simp at ho
  frz b hb := by
    have hb : (if lent = true then Lent E s.hp b else E.F b) := hb
    split at hb
    · rcases hb with hb | ⟨id, hl, hρ⟩
      · exact h.frz b hb
      · exact h.lt id b hl hρ
    · exact h.frz b hb

end
end Go.Av

/- The contract of Conducts. -/
import Derived.Test.YtgbgmijighbfbaaT5
import Derived.Laws.Strings
set_option linter.unusedSimpArgs false
set_option linter.unusedVariables false
namespace Go.Proofs.Ytgbgmijighbfbaa
open Go.Av
attribute [local simp] runf guardA opf St.ev Go.Av.look St.setd constAV constAV0 opBin opLen intBin St.need lookT TT0 tab resA resOne resAll blt_dec ble_dec beq_dec isPure
attribute [local simp] opMakeSlice opCopy opIndexAddr opLoad opStore St.mem St.rows opUn calleeA toArgs toArg toArg0 toArgs0 shift shift0 shift1 splice cellsOf isFree ofCells TS.isAgg isCell
attribute [local simp] aBools aState opBuildSlice fillA opAppend St.newBox runI valKind withinB readsHp refsD refs noSl opFieldAddr opBuild placeOf Op.operands Call.operands opIndex opExtract opSlice opField partA
attribute [local congr] bind_congr1 map_congr1 cond_congr1
attribute [local simp] aAddr opMakeMap opMapUpdate opLookup keyOk strBin
set_option linter.unusedSimpArgs false

abbrev Str := ByteArray

instance : LawfulBEq ByteArray where
  rfl := by intro a; rw [bytes_beq]; simp
  eq_of_beq := by intro a b h; rw [bytes_beq] at h; simpa using h

def strL : Str := ⟨#[76]⟩
def strR : Str := ⟨#[82]⟩

/-- What is reached from the left rail. -/
inductive Reach (cs : List Ct) (on : List Bool) : Str → Prop
  | left : Reach cs on strL
  | step (i : Nat) (c : Ct) (h1 : cs[i]? = some c) (h2 : on[i]? = some true) (h3 : Reach cs on c.fr) : Reach cs on c.to

open Classical in
noncomputable def reachB (cs : List Ct) (on : List Bool) : Bool := decide (Reach cs on strR)

theorem str_beq (a b : ByteArray) : (a.toList == b.toList) = decide (a = b) := by
  rw [ByteArray.toList_eq, ByteArray.toList_eq]
  by_cases h : a = b
  · subst h; simp
  · rw [decide_eq_false h, beq_eq_false_iff_ne]
    exact fun e => h (by cases a; cases b; congr 1; exact Array.ext' e)

def esOf (h : List Str) : List (AV × AV) := h.map fun x => (.str x, .bool true)

theorem find_es (k : Str) : ∀ h : List Str, findA (.str k) (esOf h) = some (if k ∈ h then some (.bool true) else none)
  | [] => rfl
  | x :: h => by
    show (match sameKey (.str k) (.str x) with | some b => bif b then some (some (AV.bool true)) else findA (.str k) (esOf h) | none => none) = _
    simp only [sameKey, bytes_beq]
    by_cases e : k = x
    · subst e; simp
    · simp [e, find_es k h]

theorem put_es (k : Str) : ∀ h : List Str, k ∉ h → putA (.str k) (.bool true) (esOf h) = esOf (h ++ [k])
  | [], _ => rfl
  | x :: h, hk => by
    show (match sameKey (.str k) (.str x) with | some b => bif b then (AV.str k, AV.bool true) :: esOf h else (AV.str x, AV.bool true) :: putA (.str k) (.bool true) (esOf h) | none => (AV.str x, AV.bool true) :: esOf h) = _
    simp only [sameKey, bytes_beq]
    have e : k ≠ x := fun e => hk (by simp [e])
    have hk' : k ∉ h := fun e => hk (by simp [e])
    have ih := put_es k h hk'
    simp [e, esOf] at ih ⊢; exact ih

def cnt (cs : List Ct) (h : List Str) : Nat := (cs.filter fun c => !decide (c.to ∈ h)).length

theorem cnt_le (cs : List Ct) (h : List Str) : cnt cs h ≤ cs.length := List.length_filter_le _ _

theorem cnt_lt {c : Ct} {h : List Str} (hn : c.to ∉ h) : ∀ {cs : List Ct}, c ∈ cs → cnt cs (h ++ [c.to]) + 1 ≤ cnt cs h
  | [], hc => by simp at hc
  | d :: cs, hc => by
    have mono : ∀ cs : List Ct, cnt cs (h ++ [c.to]) ≤ cnt cs h := by
      intro cs
      induction cs with
      | nil => exact Nat.le_refl _
      | cons d cs ih =>
        simp only [cnt, List.filter_cons] at ih ⊢
        by_cases e : d.to ∈ h
        · simp [e]; simpa using ih
        · by_cases e2 : d.to = c.to
          · simp [e, e2, hn]; simp at ih; omega
          · simp [e, e2]; simpa using ih
    have hm := mono cs
    simp only [cnt, List.filter_cons] at hm ⊢
    rcases List.mem_cons.1 hc with e | e
    · subst e; simp [hn]; simp at hm; omega
    · have ih := cnt_lt hn e
      simp only [cnt] at ih
      by_cases e1 : d.to ∈ h
      · simp [e1]; simpa using ih
      · by_cases e2 : d.to = c.to
        · simp [e1, e2, hn]; simp at ih; omega
        · simp [e1, e2]; simpa using ih

def Shut (cs : List Ct) (on : List Bool) (h : List Str) (x : Str) (n : Nat) : Prop := ∀ i c, i < n → cs[i]? = some c → on[i]? = some true → c.fr = x → c.to ∈ h

structure Inv (cs : List Ct) (on : List Bool) (h t : List Str) : Prop where
  reach : ∀ x ∈ h, Reach cs on x
  left : strL ∈ h
  shut : ∀ x ∈ h, x ∈ t ∨ Shut cs on h x cs.length
  sub : ∀ x ∈ t, x ∈ h
  small : cnt cs h + t.length ≤ cs.length + 1

structure Inv2 (cs : List Ct) (on : List Bool) (n : Str) (M i : Nat) (h t : List Str) : Prop where
  reach : ∀ x ∈ h, Reach cs on x
  left : strL ∈ h
  here : n ∈ h
  shut : ∀ x ∈ h, x ∈ t ∨ Shut cs on h x cs.length ∨ (x = n ∧ Shut cs on h x i)
  sub : ∀ x ∈ t, x ∈ h
  small : cnt cs h + t.length ≤ M
  bound : M ≤ cs.length

theorem Inv.start (cs : List Ct) (on : List Bool) : Inv cs on [strL] [strL] :=
  ⟨fun x hx => by simp at hx; subst hx; exact .left, by simp, fun x hx => .inl hx, fun x hx => hx, by have := cnt_le cs [strL]; simp; omega⟩

theorem Inv.pop {cs : List Ct} {on : List Bool} {h t : List Str} {n : Str} (hi : Inv cs on h (n :: t)) : Inv2 cs on n (cnt cs h + t.length) 0 h t :=
  ⟨hi.reach, hi.left, hi.sub n (by simp), fun x hx => by
    rcases hi.shut x hx with g | g
    · rcases List.mem_cons.1 g with e | e
      · exact .inr (.inr ⟨e, fun i c h0 => by omega⟩)
      · exact .inl e
    · exact .inr (.inl g), fun x hx => hi.sub x (by simp [hx]), Nat.le_refl _, by have := hi.small; simp at this; omega⟩

theorem Inv2.done {cs : List Ct} {on : List Bool} {h t : List Str} {n : Str} {M : Nat} (hi : Inv2 cs on n M cs.length h t) : Inv cs on h t :=
  ⟨hi.reach, hi.left, fun x hx => by
    rcases hi.shut x hx with g | g | ⟨e, g⟩
    · exact .inl g
    · exact .inr g
    · exact .inr g, hi.sub, by have := hi.small; have := hi.bound; omega⟩

theorem Inv2.skip {cs : List Ct} {on : List Bool} {h t : List Str} {n : Str} {M i : Nat} (hi : Inv2 cs on n M i h t) (hs : ∀ c, cs[i]? = some c → on[i]? = some true → c.fr = n → c.to ∈ h) : Inv2 cs on n M (i + 1) h t :=
  ⟨hi.reach, hi.left, hi.here, fun x hx => by
    rcases hi.shut x hx with g | g | ⟨e, g⟩
    · exact .inl g
    · exact .inr (.inl g)
    · refine .inr (.inr ⟨e, fun k c hk h1 h2 h3 => ?_⟩)
      by_cases hki : k = i
      · subst hki; exact hs c h1 h2 (h3.trans e)
      · exact g k c (by omega) h1 h2 h3, hi.sub, hi.small, hi.bound⟩

theorem Inv2.push {cs : List Ct} {on : List Bool} {h t : List Str} {n : Str} {M i : Nat} (hi : Inv2 cs on n M i h t) {c : Ct} (h1 : cs[i]? = some c) (h2 : on[i]? = some true) (h3 : c.fr = n) (h4 : c.to ∉ h) :
    Inv2 cs on n M (i + 1) (h ++ [c.to]) (t ++ [c.to]) :=
  ⟨fun x hx => by
    rcases List.mem_append.1 hx with g | g
    · exact hi.reach x g
    · simp at g; subst g; exact .step i c h1 h2 (h3 ▸ hi.reach n hi.here), by simp [hi.left], by simp [hi.here], fun x hx => by
    rcases List.mem_append.1 hx with g | g
    · rcases hi.shut x g with g | g | ⟨e, g⟩
      · exact .inl (by simp [g])
      · exact .inr (.inl fun k d hk a1 a2 a3 => by simp [g k d hk a1 a2 a3])
      · refine .inr (.inr ⟨e, fun k d hk a1 a2 a3 => ?_⟩)
        by_cases hki : k = i
        · subst hki; rw [h1] at a1; cases a1; simp
        · have := g k d (by omega) a1 a2 a3; simp [this]
    · exact .inl (by simp at g; simp [g]), fun x hx => by
    rcases List.mem_append.1 hx with g | g
    · simp [hi.sub x g]
    · simp at g; simp [g], by have := cnt_lt h4 (List.mem_of_getElem? h1); have := hi.small; simp; omega, hi.bound⟩

theorem Inv.ends {cs : List Ct} {on : List Bool} {h : List Str} (hi : Inv cs on h []) : decide (strR ∈ h) = reachB cs on := by
  have key : ∀ x, Reach cs on x → x ∈ h := by
    intro x hx
    induction hx with
    | left => exact hi.left
    | step i c h1 h2 _ ih =>
      rcases hi.shut c.fr ih with g | g
      · simp at g
      · exact g i c (get_lt h1) h1 h2 rfl
  unfold reachB
  by_cases hr : strR ∈ h
  · simp [hr, hi.reach _ hr]
  · have : ¬ Reach cs on strR := fun g => hr (key _ g)
    simp [hr, this]


structure CH where
  h : List Str
  t : List Str
  b : Nat
  row : Nat → List AV

def chHead (rung : List AV) (ons : AV) (x : CH) : St :=
  { ch := [(1, ons), (2, .hptr 0 0 0), (6, .mp 1), (7, .sl 2 x.b x.t.length)],
    hp := [.var rung, .map (esOf x.h), .arr 1 (x.b + x.t.length) x.row], base := 0, n := 64, cond := True }

def chHead2 (rung : List AV) (ons : AV) (cs : List Ct) (nd : Str) (x : Nat × CH) : St :=
  { ch := [(1, ons), (2, .hptr 0 0 0), (6, .mp 1), (7, .sl 2 x.2.b x.2.t.length), (8, .str nd), (29, aCts cs), (30, .int .i64 cs.length), (31, .int .i64 x.1)],
    hp := [.var rung, .map (esOf x.2.h), .arr 1 (x.2.b + x.2.t.length) x.2.row], base := 0, n := 64, cond := True }

def RowOk (x : CH) : Prop := (∀ i, i < x.t.length → x.row (x.b + i) = [.str (x.t.getD i default)])

theorem conducts_con (lab j : ByteArray) (cs : List Ct) (os : List Co) (on : List Bool) (hcs : cs.length ≤ 1000000) :
    Con Try.prog 12 [aRung lab cs os j, aBools on] (.tup [.bool (if on.length = cs.length then reachB cs on else false), .int .i64 (if on.length = cs.length then 0 else 2)]) [] := by
  by_cases hlen : on.length = cs.length
  · rw [if_pos hlen, if_pos hlen]
    have hle : ((on.length : Int) != (cs.length : Int)) = false := by simp; omega
    refine con_of (T := TT0) tt_ok Try.func12 (c := _) (by unfold Try.f12; rfl) Try.ntmps12 (rs := [.tmp 4, .tmp 5]) (by rw [Try.results12]) (by unfold Try.f12; rfl) (by simp) ?_
    simp only [argsCh, aRung, aBools]
    refine Wp.reg_seq (own := fun d => Nat.beq d 19) tt_ok ?_
    iterate 3
      refine regv_pure (s1 := ?_) rfl rfl ?_ ?_ ?_
      rotate_left
      · simp [aCts, aCos, hle]; rfl
      · first | (simp [aCts, aCos, hle]; done) | (simp [aCts, aCos, hle]; omega) | (simp [aCts, aCos, hle, rowsOf]; omega) | skip
    refine regv_nil ?_
    refine Wp.seq ?_
    refine Wp.reg_seq (own := fun d => Nat.beq d 19) tt_ok ?_
    iterate 6
      refine regv_pure (s1 := ?_) rfl rfl ?_ ?_ ?_
      rotate_left
      · simp [aCts, aCos, hle]; rfl
      · first | (simp [aCts, aCos, hle]; done) | (simp [aCts, aCos, hle]; omega) | (simp [aCts, aCos, hle, rowsOf]; omega) | skip
    refine regv_nil ?_
    refine Wp.cond false rfl (fun h => by cases h) (fun _ => ?_)
    refine Wp.skip ?_
    show Wp _ _ _ _
    refine Wp.reg_seq (own := fun d => Nat.beq d 19) tt_ok ?_
    iterate 4
      refine regv_pure (s1 := ?_) rfl rfl ?_ ?_ ?_
      rotate_left
      · simp [aCts, aCos, hle]; rfl
      · first | (simp [aCts, aCos, hle]; done) | (simp [aCts, aCos, hle]; omega) | (simp [aCts, aCos, hle, rowsOf]; omega) | skip
    refine regv_nil ?_
    refine Wp.reg_seq (own := fun d => Nat.beq d 19) tt_ok ?_
    iterate 2
      refine regv_pure (s1 := ?_) rfl rfl ?_ ?_ ?_
      rotate_left
      · simp [aCts, aCos, hle]; rfl
      · first | (simp [aCts, aCos, hle]; done) | (simp [aCts, aCos, hle]; omega) | (simp [aCts, aCos, hle, rowsOf]; omega) | skip
    refine regv_nil ?_
    refine Wp.seq ?_
    refine Wp.block ?_
    refine Wp.loop (α := CH) (chHead [.str lab, aCts cs, aCos os, .str j] (aBools on)) (fun x => cnt cs x.h + x.t.length) (fun x => Inv cs on x.h x.t ∧ RowOk x) ?_ (⟨[strL], [strL], 0, rowsOf 1 [.str strL]⟩) ?_ ?_
    rotate_left
    ·
      exact ⟨Inv.start cs on, fun i hi => by simp at hi; subst hi; rfl⟩
    ·
      refine Reloc.mk2 [some 0, some 1, some 2] rfl rfl rfl (by decide) ?_ ?_
      · repeat' first | exact objsLe_nil | refine objsLe_cons ?_ ?_
        all_goals first
          | (refine ObjLe.var' rfl rfl ?_ rfl
             repeat' first | exact All2.nil | refine All2.cons ?_ ?_
             all_goals first | (exact AvLe.refl _ rfl) | (exact AvLe.hptr _ _ _ _ rfl) | (exact AvLe.sl _ _ _ _ rfl) | (exact AvLe.sl' rfl (by simp) (by simp)) | (exact AvLe.mp _ _ rfl) | (exact AvLe.nil _) | (exact AvLe.ghost _ rfl) | (exact AvLe.eq (by simp [aCts, aCos, hle]; done) rfl))
          | (exact ObjLe.map' rfl rfl)
          | (exact ObjLe.ghost' rfl (by decide))
          | (exact ObjLe.arr' rfl rfl (by first | (simp; done) | (simp; omega)) (fun _ _ => rfl))
      · repeat' first | exact chLe_nil | refine chLe_cons ?_ ?_
        all_goals first
          | (exact AvLe.refl _ rfl)
          | (exact AvLe.hptr _ _ _ _ rfl)
          | (exact AvLe.sl _ _ _ _ rfl)
          | (exact AvLe.sl' rfl (by simp) (by simp))
          | (exact AvLe.mp _ _ rfl)
          | (exact AvLe.nil _)
          | (exact AvLe.ghost _ rfl)
          | (exact AvLe.eq (by simp [aCts, aCos, hle]; done) rfl)
    rintro ⟨h, t, b, row⟩ ⟨hinv, hrow⟩
    simp only [chHead]
    simp only at hinv
    rcases t with _ | ⟨nd, t⟩
    ·
      by_cases hr : strR ∈ h
      ·
        have hr' : (⟨#[82]⟩ : ByteArray) ∈ h := hr
        refine Wp.seq ?_
        refine Wp.reg_seq (own := fun d => Nat.beq d 19) tt_ok ?_
        iterate 3
          refine regv_pure (s1 := ?_) rfl rfl ?_ ?_ ?_
          rotate_left
          · simp [aCts, aCos, hle, find_es, hr']; rfl
          · first | (simp [aCts, aCos, hle, find_es, hr']; done) | (simp [aCts, aCos, hle, find_es, hr']; omega) | (simp [aCts, aCos, hle, find_es, hr', rowsOf]; omega) | skip
        refine regv_nil ?_
        refine Wp.cond false rfl (fun h => by cases h) (fun _ => ?_)
        refine Wp.exit ?_
        show Wp _ _ _ _
        refine Wp.reg_seq (own := fun d => Nat.beq d 19) tt_ok ?_
        iterate 4
          refine regv_pure (s1 := ?_) rfl rfl ?_ ?_ ?_
          rotate_left
          · simp [aCts, aCos, hle, find_es, hr']; rfl
          · first | (simp [aCts, aCos, hle, find_es, hr']; done) | (simp [aCts, aCos, hle, find_es, hr']; omega) | (simp [aCts, aCos, hle, find_es, hr', rowsOf]; omega) | skip
        refine regv_nil ?_
        refine Wp.ret (endQ_ret0 rfl ?_)
        rw [← hinv.ends]
        exact .tups (.cons (.eq (by simp [hr]) rfl) (.cons (.refl _ rfl) .nil))
      ·
        have hr' : ¬ (⟨#[82]⟩ : ByteArray) ∈ h := hr
        refine Wp.seq ?_
        refine Wp.reg_seq (own := fun d => Nat.beq d 19) tt_ok ?_
        iterate 3
          refine regv_pure (s1 := ?_) rfl rfl ?_ ?_ ?_
          rotate_left
          · simp [aCts, aCos, hle, find_es, hr']; rfl
          · first | (simp [aCts, aCos, hle, find_es, hr']; done) | (simp [aCts, aCos, hle, find_es, hr']; omega) | (simp [aCts, aCos, hle, find_es, hr', rowsOf]; omega) | skip
        refine regv_nil ?_
        refine Wp.cond false rfl (fun h => by cases h) (fun _ => ?_)
        refine Wp.exit ?_
        show Wp _ _ _ _
        refine Wp.reg_seq (own := fun d => Nat.beq d 19) tt_ok ?_
        iterate 4
          refine regv_pure (s1 := ?_) rfl rfl ?_ ?_ ?_
          rotate_left
          · simp [aCts, aCos, hle, find_es, hr']; rfl
          · first | (simp [aCts, aCos, hle, find_es, hr']; done) | (simp [aCts, aCos, hle, find_es, hr']; omega) | (simp [aCts, aCos, hle, find_es, hr', rowsOf]; omega) | skip
        refine regv_nil ?_
        refine Wp.ret (endQ_ret0 rfl ?_)
        rw [← hinv.ends]
        exact .tups (.cons (.eq (by simp [hr]) rfl) (.cons (.refl _ rfl) .nil))
    ·
      have hpos : (0 : Int) < (t.length : Int) + 1 := by omega
      have hr0 : row b = [.str nd] := by have := hrow 0 (by simp); simpa using this
      refine Wp.seq ?_
      refine Wp.reg_seq (own := fun d => Nat.beq d 19) tt_ok ?_
      iterate 3
        refine regv_pure (s1 := ?_) rfl rfl ?_ ?_ ?_
        rotate_left
        · simp [aCts, aCos, hle, hpos, hr0]; rfl
        · first | (simp [aCts, aCos, hle, hpos, hr0]; done) | (simp [aCts, aCos, hle, hpos, hr0]; omega) | (simp [aCts, aCos, hle, hpos, hr0, rowsOf]; omega) | skip
      refine regv_nil ?_
      refine Wp.cond true rfl (fun _ => ?_) (fun h => by cases h)
      refine Wp.skip ?_
      show Wp _ _ _ _
      refine Wp.block ?_
      refine Wp.reg_seq (own := fun d => Nat.beq d 19) tt_ok ?_
      iterate 4
        refine regv_pure (s1 := ?_) rfl rfl ?_ ?_ ?_
        rotate_left
        · simp [aCts, aCos, hle, hpos, hr0]; rfl
        · first | (simp [aCts, aCos, hle, hpos, hr0]; done) | (simp [aCts, aCos, hle, hpos, hr0]; omega) | (simp [aCts, aCos, hle, hpos, hr0, rowsOf]; omega) | skip
      refine regv_nil ?_
      refine Wp.reg_seq (own := fun d => Nat.beq d 19) tt_ok ?_
      iterate 3
        refine regv_pure (s1 := ?_) rfl rfl ?_ ?_ ?_
        rotate_left
        · simp [aCts, aCos, hle, hpos, hr0]; rfl
        · first | (simp [aCts, aCos, hle, hpos, hr0]; done) | (simp [aCts, aCos, hle, hpos, hr0]; omega) | (simp [aCts, aCos, hle, hpos, hr0, rowsOf]; omega) | skip
      refine regv_nil ?_
      refine Wp.reg_seq (own := fun d => Nat.beq d 19) tt_ok ?_
      iterate 4
        refine regv_pure (s1 := ?_) rfl rfl ?_ ?_ ?_
        rotate_left
        · simp [aCts, aCos, hle, hpos, hr0]; rfl
        · first | (simp [aCts, aCos, hle, hpos, hr0]; done) | (simp [aCts, aCos, hle, hpos, hr0]; omega) | (simp [aCts, aCos, hle, hpos, hr0, rowsOf]; omega) | skip
      refine regv_nil ?_
      refine Wp.block ?_
      refine Wp.loop (α := Nat × CH) (chHead2 [.str lab, aCts cs, aCos os, .str j] (aBools on) cs nd) (fun x => cs.length - x.1) (fun x => x.1 ≤ cs.length ∧ Inv2 cs on nd (cnt cs h + t.length) x.1 x.2.h x.2.t ∧ RowOk x.2) ?_ ((0, ⟨h, t, b + 1, row⟩)) ?_ ?_
      rotate_left
      ·
        refine ⟨Nat.zero_le _, hinv.pop, fun i hi => ?_⟩
        have := hrow (i + 1) (by simpa using hi)
        simp only at this ⊢
        rw [show b + 1 + i = b + (i + 1) by omega]; simpa using this
      ·
        refine Reloc.mk2 [some 0, some 1, some 2] rfl rfl rfl (by decide) ?_ ?_
        · repeat' first | exact objsLe_nil | refine objsLe_cons ?_ ?_
          all_goals first
            | (refine ObjLe.var' rfl rfl ?_ rfl
               repeat' first | exact All2.nil | refine All2.cons ?_ ?_
               all_goals first | (exact AvLe.refl _ rfl) | (exact AvLe.hptr _ _ _ _ rfl) | (exact AvLe.sl _ _ _ _ rfl) | (exact AvLe.sl' rfl (by simp) (by simp)) | (exact AvLe.mp _ _ rfl) | (exact AvLe.nil _) | (exact AvLe.ghost _ rfl) | (exact AvLe.eq (by simp [aCts, aCos, hle, hpos, hr0]; done) rfl) | (exact ObjLe.arr' rfl rfl (by simp; omega) (fun _ _ => rfl)))
            | (exact ObjLe.map' rfl rfl)
            | (exact ObjLe.ghost' rfl (by decide))
            | (exact ObjLe.arr' rfl rfl (by first | (simp; done) | (simp; omega)) (fun _ _ => rfl))
            | (exact ObjLe.arr' rfl rfl (by simp; omega) (fun _ _ => rfl))
        · repeat' first | exact chLe_nil | refine chLe_cons ?_ ?_
          all_goals first
            | (exact AvLe.refl _ rfl)
            | (exact AvLe.hptr _ _ _ _ rfl)
            | (exact AvLe.sl _ _ _ _ rfl)
            | (exact AvLe.sl' rfl (by simp) (by simp))
            | (exact AvLe.mp _ _ rfl)
            | (exact AvLe.nil _)
            | (exact AvLe.ghost _ rfl)
            | (exact AvLe.eq (by simp [aCts, aCos, hle, hpos, hr0]; done) rfl)
            | (exact ObjLe.arr' rfl rfl (by simp; omega) (fun _ _ => rfl))
      rintro ⟨i, h2, t2, b2, row2⟩ ⟨hile, hinv2, hrow2⟩
      simp only [chHead2]
      simp only at hile hinv2
      rcases Nat.lt_or_ge i cs.length with hi | hi
      ·
        obtain ⟨c, hc⟩ : ∃ c, cs[i]? = some c := ⟨cs[i], List.getElem?_eq_getElem hi⟩
        obtain ⟨v, hv⟩ : ∃ v, on[i]? = some v := ⟨on[i], List.getElem?_eq_getElem (by omega)⟩
        have hlt : (i : Int) < cs.length := by omega
        have hlt2 : (i : Int) < on.length := by omega
        have hwrap := wrap_succ i (by omega)
        cases v
        ·
          refine Wp.reg_seq (own := fun d => Nat.beq d 19) tt_ok ?_
          iterate 1
            refine regv_pure (s1 := ?_) rfl rfl ?_ ?_ ?_
            rotate_left
            · simp [aCts, aCos, hle, hpos, hr0, hc, hlt, hlt2, hv, rowCt, hwrap]; rfl
            · first | (simp [aCts, aCos, hle, hpos, hr0, hc, hlt, hlt2, hv, rowCt, hwrap]; done) | (simp [aCts, aCos, hle, hpos, hr0, hc, hlt, hlt2, hv, rowCt, hwrap]; omega) | (simp [aCts, aCos, hle, hpos, hr0, hc, hlt, hlt2, hv, rowCt, hwrap, rowsOf]; omega) | skip
          refine regv_nil ?_
          refine Wp.seq ?_
          refine Wp.cond true rfl (fun _ => ?_) (fun h => by cases h)
          refine Wp.skip ?_
          show Wp _ _ _ _
          refine Wp.seq ?_
          refine Wp.block ?_
          refine Wp.reg_seq (own := fun d => Nat.beq d 19) tt_ok ?_
          iterate 6
            refine regv_pure (s1 := ?_) rfl rfl ?_ ?_ ?_
            rotate_left
            · simp [aCts, aCos, hle, hpos, hr0, hc, hlt, hlt2, hv, rowCt, hwrap]; rfl
            · first | (simp [aCts, aCos, hle, hpos, hr0, hc, hlt, hlt2, hv, rowCt, hwrap]; done) | (simp [aCts, aCos, hle, hpos, hr0, hc, hlt, hlt2, hv, rowCt, hwrap]; omega) | (simp [aCts, aCos, hle, hpos, hr0, hc, hlt, hlt2, hv, rowCt, hwrap, rowsOf]; omega) | skip
          refine regv_nil ?_
          refine Wp.reg_seq (own := fun d => Nat.beq d 19) tt_ok ?_
          iterate 5
            refine regv_pure (s1 := ?_) rfl rfl ?_ ?_ ?_
            rotate_left
            · simp [aCts, aCos, hle, hpos, hr0, hc, hlt, hlt2, hv, rowCt, hwrap]; rfl
            · first | (simp [aCts, aCos, hle, hpos, hr0, hc, hlt, hlt2, hv, rowCt, hwrap]; done) | (simp [aCts, aCos, hle, hpos, hr0, hc, hlt, hlt2, hv, rowCt, hwrap]; omega) | (simp [aCts, aCos, hle, hpos, hr0, hc, hlt, hlt2, hv, rowCt, hwrap, rowsOf]; omega) | skip
          first
            | (refine regv_pure (s1 := ?_) rfl ?_ ?_ ?_ ?_
               rotate_left
               · simp [aCts, aCos, hle, hpos, hr0, hc, hlt, hlt2, hv, rowCt, hwrap]; done
               · simp [aCts, aCos, hle, hpos, hr0, hc, hlt, hlt2, hv, rowCt, hwrap]; rfl
               · first | (simp [aCts, aCos, hle, hpos, hr0, hc, hlt, hlt2, hv, rowCt, hwrap]; done) | (simp [aCts, aCos, hle, hpos, hr0, hc, hlt, hlt2, hv, rowCt, hwrap]; omega) | (simp [aCts, aCos, hle, hpos, hr0, hc, hlt, hlt2, hv, rowCt, hwrap, rowsOf]; omega) | skip)
            | (refine regv_skip (s1 := ?_) ?_ ?_ ?_
               rotate_left
               · simp [aCts, aCos, hle, hpos, hr0, hc, hlt, hlt2, hv, rowCt, hwrap]; done
               · simp [aCts, aCos, hle, hpos, hr0, hc, hlt, hlt2, hv, rowCt, hwrap]; rfl)
          first
            | (refine regv_pure (s1 := ?_) rfl ?_ ?_ ?_ ?_
               rotate_left
               · simp [aCts, aCos, hle, hpos, hr0, hc, hlt, hlt2, hv, rowCt, hwrap]; done
               · simp [aCts, aCos, hle, hpos, hr0, hc, hlt, hlt2, hv, rowCt, hwrap]; rfl
               · first | (simp [aCts, aCos, hle, hpos, hr0, hc, hlt, hlt2, hv, rowCt, hwrap]; done) | (simp [aCts, aCos, hle, hpos, hr0, hc, hlt, hlt2, hv, rowCt, hwrap]; omega) | (simp [aCts, aCos, hle, hpos, hr0, hc, hlt, hlt2, hv, rowCt, hwrap, rowsOf]; omega) | skip)
            | (refine regv_skip (s1 := ?_) ?_ ?_ ?_
               rotate_left
               · simp [aCts, aCos, hle, hpos, hr0, hc, hlt, hlt2, hv, rowCt, hwrap]; done
               · simp [aCts, aCos, hle, hpos, hr0, hc, hlt, hlt2, hv, rowCt, hwrap]; rfl)
          first
            | (refine regv_pure (s1 := ?_) rfl ?_ ?_ ?_ ?_
               rotate_left
               · simp [aCts, aCos, hle, hpos, hr0, hc, hlt, hlt2, hv, rowCt, hwrap]; done
               · simp [aCts, aCos, hle, hpos, hr0, hc, hlt, hlt2, hv, rowCt, hwrap]; rfl
               · first | (simp [aCts, aCos, hle, hpos, hr0, hc, hlt, hlt2, hv, rowCt, hwrap]; done) | (simp [aCts, aCos, hle, hpos, hr0, hc, hlt, hlt2, hv, rowCt, hwrap]; omega) | (simp [aCts, aCos, hle, hpos, hr0, hc, hlt, hlt2, hv, rowCt, hwrap, rowsOf]; omega) | skip)
            | (refine regv_skip (s1 := ?_) ?_ ?_ ?_
               rotate_left
               · simp [aCts, aCos, hle, hpos, hr0, hc, hlt, hlt2, hv, rowCt, hwrap]; done
               · simp [aCts, aCos, hle, hpos, hr0, hc, hlt, hlt2, hv, rowCt, hwrap]; rfl)
          first
            | (refine regv_pure (s1 := ?_) rfl ?_ ?_ ?_ ?_
               rotate_left
               · simp [aCts, aCos, hle, hpos, hr0, hc, hlt, hlt2, hv, rowCt, hwrap]; done
               · simp [aCts, aCos, hle, hpos, hr0, hc, hlt, hlt2, hv, rowCt, hwrap]; rfl
               · first | (simp [aCts, aCos, hle, hpos, hr0, hc, hlt, hlt2, hv, rowCt, hwrap]; done) | (simp [aCts, aCos, hle, hpos, hr0, hc, hlt, hlt2, hv, rowCt, hwrap]; omega) | (simp [aCts, aCos, hle, hpos, hr0, hc, hlt, hlt2, hv, rowCt, hwrap, rowsOf]; omega) | skip)
            | (refine regv_skip (s1 := ?_) ?_ ?_ ?_
               rotate_left
               · simp [aCts, aCos, hle, hpos, hr0, hc, hlt, hlt2, hv, rowCt, hwrap]; done
               · simp [aCts, aCos, hle, hpos, hr0, hc, hlt, hlt2, hv, rowCt, hwrap]; rfl)
          iterate 2
            refine regv_pure (s1 := ?_) rfl rfl ?_ ?_ ?_
            rotate_left
            · simp [aCts, aCos, hle, hpos, hr0, hc, hlt, hlt2, hv, rowCt, hwrap]; rfl
            · first | (simp [aCts, aCos, hle, hpos, hr0, hc, hlt, hlt2, hv, rowCt, hwrap]; done) | (simp [aCts, aCos, hle, hpos, hr0, hc, hlt, hlt2, hv, rowCt, hwrap]; omega) | (simp [aCts, aCos, hle, hpos, hr0, hc, hlt, hlt2, hv, rowCt, hwrap, rowsOf]; omega) | skip
          first
            | (refine regv_pure (s1 := ?_) rfl ?_ ?_ ?_ ?_
               rotate_left
               · simp [aCts, aCos, hle, hpos, hr0, hc, hlt, hlt2, hv, rowCt, hwrap]; done
               · simp [aCts, aCos, hle, hpos, hr0, hc, hlt, hlt2, hv, rowCt, hwrap]; rfl
               · first | (simp [aCts, aCos, hle, hpos, hr0, hc, hlt, hlt2, hv, rowCt, hwrap]; done) | (simp [aCts, aCos, hle, hpos, hr0, hc, hlt, hlt2, hv, rowCt, hwrap]; omega) | (simp [aCts, aCos, hle, hpos, hr0, hc, hlt, hlt2, hv, rowCt, hwrap, rowsOf]; omega) | skip)
            | (refine regv_skip (s1 := ?_) ?_ ?_ ?_
               rotate_left
               · simp [aCts, aCos, hle, hpos, hr0, hc, hlt, hlt2, hv, rowCt, hwrap]; done
               · simp [aCts, aCos, hle, hpos, hr0, hc, hlt, hlt2, hv, rowCt, hwrap]; rfl)
          first
            | (refine regv_pure (s1 := ?_) rfl ?_ ?_ ?_ ?_
               rotate_left
               · simp [aCts, aCos, hle, hpos, hr0, hc, hlt, hlt2, hv, rowCt, hwrap]; done
               · simp [aCts, aCos, hle, hpos, hr0, hc, hlt, hlt2, hv, rowCt, hwrap]; rfl
               · first | (simp [aCts, aCos, hle, hpos, hr0, hc, hlt, hlt2, hv, rowCt, hwrap]; done) | (simp [aCts, aCos, hle, hpos, hr0, hc, hlt, hlt2, hv, rowCt, hwrap]; omega) | (simp [aCts, aCos, hle, hpos, hr0, hc, hlt, hlt2, hv, rowCt, hwrap, rowsOf]; omega) | skip)
            | (refine regv_skip (s1 := ?_) ?_ ?_ ?_
               rotate_left
               · simp [aCts, aCos, hle, hpos, hr0, hc, hlt, hlt2, hv, rowCt, hwrap]; done
               · simp [aCts, aCos, hle, hpos, hr0, hc, hlt, hlt2, hv, rowCt, hwrap]; rfl)
          first
            | (refine regv_pure (s1 := ?_) rfl ?_ ?_ ?_ ?_
               rotate_left
               · simp [aCts, aCos, hle, hpos, hr0, hc, hlt, hlt2, hv, rowCt, hwrap]; done
               · simp [aCts, aCos, hle, hpos, hr0, hc, hlt, hlt2, hv, rowCt, hwrap]; rfl
               · first | (simp [aCts, aCos, hle, hpos, hr0, hc, hlt, hlt2, hv, rowCt, hwrap]; done) | (simp [aCts, aCos, hle, hpos, hr0, hc, hlt, hlt2, hv, rowCt, hwrap]; omega) | (simp [aCts, aCos, hle, hpos, hr0, hc, hlt, hlt2, hv, rowCt, hwrap, rowsOf]; omega) | skip)
            | (refine regv_skip (s1 := ?_) ?_ ?_ ?_
               rotate_left
               · simp [aCts, aCos, hle, hpos, hr0, hc, hlt, hlt2, hv, rowCt, hwrap]; done
               · simp [aCts, aCos, hle, hpos, hr0, hc, hlt, hlt2, hv, rowCt, hwrap]; rfl)
          first
            | (refine regv_pure (s1 := ?_) rfl ?_ ?_ ?_ ?_
               rotate_left
               · simp [aCts, aCos, hle, hpos, hr0, hc, hlt, hlt2, hv, rowCt, hwrap]; done
               · simp [aCts, aCos, hle, hpos, hr0, hc, hlt, hlt2, hv, rowCt, hwrap]; rfl
               · first | (simp [aCts, aCos, hle, hpos, hr0, hc, hlt, hlt2, hv, rowCt, hwrap]; done) | (simp [aCts, aCos, hle, hpos, hr0, hc, hlt, hlt2, hv, rowCt, hwrap]; omega) | (simp [aCts, aCos, hle, hpos, hr0, hc, hlt, hlt2, hv, rowCt, hwrap, rowsOf]; omega) | skip)
            | (refine regv_skip (s1 := ?_) ?_ ?_ ?_
               rotate_left
               · simp [aCts, aCos, hle, hpos, hr0, hc, hlt, hlt2, hv, rowCt, hwrap]; done
               · simp [aCts, aCos, hle, hpos, hr0, hc, hlt, hlt2, hv, rowCt, hwrap]; rfl)
          first
            | (refine regv_pure (s1 := ?_) rfl ?_ ?_ ?_ ?_
               rotate_left
               · simp [aCts, aCos, hle, hpos, hr0, hc, hlt, hlt2, hv, rowCt, hwrap]; done
               · simp [aCts, aCos, hle, hpos, hr0, hc, hlt, hlt2, hv, rowCt, hwrap]; rfl
               · first | (simp [aCts, aCos, hle, hpos, hr0, hc, hlt, hlt2, hv, rowCt, hwrap]; done) | (simp [aCts, aCos, hle, hpos, hr0, hc, hlt, hlt2, hv, rowCt, hwrap]; omega) | (simp [aCts, aCos, hle, hpos, hr0, hc, hlt, hlt2, hv, rowCt, hwrap, rowsOf]; omega) | skip)
            | (refine regv_skip (s1 := ?_) ?_ ?_ ?_
               rotate_left
               · simp [aCts, aCos, hle, hpos, hr0, hc, hlt, hlt2, hv, rowCt, hwrap]; done
               · simp [aCts, aCos, hle, hpos, hr0, hc, hlt, hlt2, hv, rowCt, hwrap]; rfl)
          iterate 1
            refine regv_pure (s1 := ?_) rfl rfl ?_ ?_ ?_
            rotate_left
            · simp [aCts, aCos, hle, hpos, hr0, hc, hlt, hlt2, hv, rowCt, hwrap]; rfl
            · first | (simp [aCts, aCos, hle, hpos, hr0, hc, hlt, hlt2, hv, rowCt, hwrap]; done) | (simp [aCts, aCos, hle, hpos, hr0, hc, hlt, hlt2, hv, rowCt, hwrap]; omega) | (simp [aCts, aCos, hle, hpos, hr0, hc, hlt, hlt2, hv, rowCt, hwrap, rowsOf]; omega) | skip
          refine regv_nil ?_
          refine Wp.cond false rfl (fun h => by cases h) (fun _ => ?_)
          refine Wp.skip ?_
          show Wp _ _ _ _
          refine Wp.reg (own := fun d => Nat.beq d 19) tt_ok ?_
          iterate 2
            refine regv_pure (s1 := ?_) rfl rfl ?_ ?_ ?_
            rotate_left
            · simp [aCts, aCos, hle, hpos, hr0, hc, hlt, hlt2, hv, rowCt, hwrap]; rfl
            · first | (simp [aCts, aCos, hle, hpos, hr0, hc, hlt, hlt2, hv, rowCt, hwrap]; done) | (simp [aCts, aCos, hle, hpos, hr0, hc, hlt, hlt2, hv, rowCt, hwrap]; omega) | (simp [aCts, aCos, hle, hpos, hr0, hc, hlt, hlt2, hv, rowCt, hwrap, rowsOf]; omega) | skip
          refine regv_nil ?_
          refine loopQ_next (i + 1, ⟨h2, t2, b2, row2⟩) ⟨by simp only; omega, hinv2.skip (by intro d h1 h2; rw [hv] at h2; cases h2), hrow2⟩ (by simp only; omega) ?_
          refine Reloc.mk2 [some 0, some 1, some 2] rfl rfl rfl (by decide) ?_ ?_
          · repeat' first | exact objsLe_nil | refine objsLe_cons ?_ ?_
            all_goals first
              | (refine ObjLe.var' rfl rfl ?_ rfl
                 repeat' first | exact All2.nil | refine All2.cons ?_ ?_
                 all_goals first | (exact AvLe.refl _ rfl) | (exact AvLe.hptr _ _ _ _ rfl) | (exact AvLe.sl _ _ _ _ rfl) | (exact AvLe.sl' rfl (by simp) (by simp)) | (exact AvLe.mp _ _ rfl) | (exact AvLe.nil _) | (exact AvLe.ghost _ rfl) | (exact AvLe.eq (by simp [aCts, aCos, hle, hpos, hr0, hc, hlt, hlt2, hv, rowCt, hwrap]; done) rfl))
              | (exact ObjLe.map' rfl rfl)
              | (exact ObjLe.ghost' rfl (by decide))
              | (exact ObjLe.arr' rfl rfl (by first | (simp; done) | (simp; omega)) (fun _ _ => rfl))
          · repeat' first | exact chLe_nil | refine chLe_cons ?_ ?_
            all_goals first
              | (exact AvLe.refl _ rfl)
              | (exact AvLe.hptr _ _ _ _ rfl)
              | (exact AvLe.sl _ _ _ _ rfl)
              | (exact AvLe.sl' rfl (by simp) (by simp))
              | (exact AvLe.mp _ _ rfl)
              | (exact AvLe.nil _)
              | (exact AvLe.ghost _ rfl)
              | (exact AvLe.eq (by simp [aCts, aCos, hle, hpos, hr0, hc, hlt, hlt2, hv, rowCt, hwrap]; done) rfl)
        ·
          by_cases hf : c.fr = nd
          ·
            by_cases hm : c.to ∈ h2
            ·
              refine Wp.reg_seq (own := fun d => Nat.beq d 19) tt_ok ?_
              iterate 1
                refine regv_pure (s1 := ?_) rfl rfl ?_ ?_ ?_
                rotate_left
                · simp [aCts, aCos, hle, hpos, hr0, hc, hlt, hlt2, hv, rowCt, hwrap, hf, str_beq, find_es, hm]; rfl
                · first | (simp [aCts, aCos, hle, hpos, hr0, hc, hlt, hlt2, hv, rowCt, hwrap, hf, str_beq, find_es, hm]; done) | (simp [aCts, aCos, hle, hpos, hr0, hc, hlt, hlt2, hv, rowCt, hwrap, hf, str_beq, find_es, hm]; omega) | (simp [aCts, aCos, hle, hpos, hr0, hc, hlt, hlt2, hv, rowCt, hwrap, hf, str_beq, find_es, hm, rowsOf]; omega) | skip
              refine regv_nil ?_
              refine Wp.seq ?_
              refine Wp.cond true rfl (fun _ => ?_) (fun h => by cases h)
              refine Wp.skip ?_
              show Wp _ _ _ _
              refine Wp.seq ?_
              refine Wp.block ?_
              refine Wp.reg_seq (own := fun d => Nat.beq d 19) tt_ok ?_
              iterate 6
                refine regv_pure (s1 := ?_) rfl rfl ?_ ?_ ?_
                rotate_left
                · simp [aCts, aCos, hle, hpos, hr0, hc, hlt, hlt2, hv, rowCt, hwrap, hf, str_beq, find_es, hm]; rfl
                · first | (simp [aCts, aCos, hle, hpos, hr0, hc, hlt, hlt2, hv, rowCt, hwrap, hf, str_beq, find_es, hm]; done) | (simp [aCts, aCos, hle, hpos, hr0, hc, hlt, hlt2, hv, rowCt, hwrap, hf, str_beq, find_es, hm]; omega) | (simp [aCts, aCos, hle, hpos, hr0, hc, hlt, hlt2, hv, rowCt, hwrap, hf, str_beq, find_es, hm, rowsOf]; omega) | skip
              refine regv_nil ?_
              refine Wp.reg_seq (own := fun d => Nat.beq d 19) tt_ok ?_
              iterate 5
                refine regv_pure (s1 := ?_) rfl rfl ?_ ?_ ?_
                rotate_left
                · simp [aCts, aCos, hle, hpos, hr0, hc, hlt, hlt2, hv, rowCt, hwrap, hf, str_beq, find_es, hm]; rfl
                · first | (simp [aCts, aCos, hle, hpos, hr0, hc, hlt, hlt2, hv, rowCt, hwrap, hf, str_beq, find_es, hm]; done) | (simp [aCts, aCos, hle, hpos, hr0, hc, hlt, hlt2, hv, rowCt, hwrap, hf, str_beq, find_es, hm]; omega) | (simp [aCts, aCos, hle, hpos, hr0, hc, hlt, hlt2, hv, rowCt, hwrap, hf, str_beq, find_es, hm, rowsOf]; omega) | skip
              first
                | (refine regv_pure (s1 := ?_) rfl ?_ ?_ ?_ ?_
                   rotate_left
                   · simp [aCts, aCos, hle, hpos, hr0, hc, hlt, hlt2, hv, rowCt, hwrap, hf, str_beq, find_es, hm]; done
                   · simp [aCts, aCos, hle, hpos, hr0, hc, hlt, hlt2, hv, rowCt, hwrap, hf, str_beq, find_es, hm]; rfl
                   · first | (simp [aCts, aCos, hle, hpos, hr0, hc, hlt, hlt2, hv, rowCt, hwrap, hf, str_beq, find_es, hm]; done) | (simp [aCts, aCos, hle, hpos, hr0, hc, hlt, hlt2, hv, rowCt, hwrap, hf, str_beq, find_es, hm]; omega) | (simp [aCts, aCos, hle, hpos, hr0, hc, hlt, hlt2, hv, rowCt, hwrap, hf, str_beq, find_es, hm, rowsOf]; omega) | skip)
                | (refine regv_skip (s1 := ?_) ?_ ?_ ?_
                   rotate_left
                   · simp [aCts, aCos, hle, hpos, hr0, hc, hlt, hlt2, hv, rowCt, hwrap, hf, str_beq, find_es, hm]; done
                   · simp [aCts, aCos, hle, hpos, hr0, hc, hlt, hlt2, hv, rowCt, hwrap, hf, str_beq, find_es, hm]; rfl)
              first
                | (refine regv_pure (s1 := ?_) rfl ?_ ?_ ?_ ?_
                   rotate_left
                   · simp [aCts, aCos, hle, hpos, hr0, hc, hlt, hlt2, hv, rowCt, hwrap, hf, str_beq, find_es, hm]; done
                   · simp [aCts, aCos, hle, hpos, hr0, hc, hlt, hlt2, hv, rowCt, hwrap, hf, str_beq, find_es, hm]; rfl
                   · first | (simp [aCts, aCos, hle, hpos, hr0, hc, hlt, hlt2, hv, rowCt, hwrap, hf, str_beq, find_es, hm]; done) | (simp [aCts, aCos, hle, hpos, hr0, hc, hlt, hlt2, hv, rowCt, hwrap, hf, str_beq, find_es, hm]; omega) | (simp [aCts, aCos, hle, hpos, hr0, hc, hlt, hlt2, hv, rowCt, hwrap, hf, str_beq, find_es, hm, rowsOf]; omega) | skip)
                | (refine regv_skip (s1 := ?_) ?_ ?_ ?_
                   rotate_left
                   · simp [aCts, aCos, hle, hpos, hr0, hc, hlt, hlt2, hv, rowCt, hwrap, hf, str_beq, find_es, hm]; done
                   · simp [aCts, aCos, hle, hpos, hr0, hc, hlt, hlt2, hv, rowCt, hwrap, hf, str_beq, find_es, hm]; rfl)
              first
                | (refine regv_pure (s1 := ?_) rfl ?_ ?_ ?_ ?_
                   rotate_left
                   · simp [aCts, aCos, hle, hpos, hr0, hc, hlt, hlt2, hv, rowCt, hwrap, hf, str_beq, find_es, hm]; done
                   · simp [aCts, aCos, hle, hpos, hr0, hc, hlt, hlt2, hv, rowCt, hwrap, hf, str_beq, find_es, hm]; rfl
                   · first | (simp [aCts, aCos, hle, hpos, hr0, hc, hlt, hlt2, hv, rowCt, hwrap, hf, str_beq, find_es, hm]; done) | (simp [aCts, aCos, hle, hpos, hr0, hc, hlt, hlt2, hv, rowCt, hwrap, hf, str_beq, find_es, hm]; omega) | (simp [aCts, aCos, hle, hpos, hr0, hc, hlt, hlt2, hv, rowCt, hwrap, hf, str_beq, find_es, hm, rowsOf]; omega) | skip)
                | (refine regv_skip (s1 := ?_) ?_ ?_ ?_
                   rotate_left
                   · simp [aCts, aCos, hle, hpos, hr0, hc, hlt, hlt2, hv, rowCt, hwrap, hf, str_beq, find_es, hm]; done
                   · simp [aCts, aCos, hle, hpos, hr0, hc, hlt, hlt2, hv, rowCt, hwrap, hf, str_beq, find_es, hm]; rfl)
              first
                | (refine regv_pure (s1 := ?_) rfl ?_ ?_ ?_ ?_
                   rotate_left
                   · simp [aCts, aCos, hle, hpos, hr0, hc, hlt, hlt2, hv, rowCt, hwrap, hf, str_beq, find_es, hm]; done
                   · simp [aCts, aCos, hle, hpos, hr0, hc, hlt, hlt2, hv, rowCt, hwrap, hf, str_beq, find_es, hm]; rfl
                   · first | (simp [aCts, aCos, hle, hpos, hr0, hc, hlt, hlt2, hv, rowCt, hwrap, hf, str_beq, find_es, hm]; done) | (simp [aCts, aCos, hle, hpos, hr0, hc, hlt, hlt2, hv, rowCt, hwrap, hf, str_beq, find_es, hm]; omega) | (simp [aCts, aCos, hle, hpos, hr0, hc, hlt, hlt2, hv, rowCt, hwrap, hf, str_beq, find_es, hm, rowsOf]; omega) | skip)
                | (refine regv_skip (s1 := ?_) ?_ ?_ ?_
                   rotate_left
                   · simp [aCts, aCos, hle, hpos, hr0, hc, hlt, hlt2, hv, rowCt, hwrap, hf, str_beq, find_es, hm]; done
                   · simp [aCts, aCos, hle, hpos, hr0, hc, hlt, hlt2, hv, rowCt, hwrap, hf, str_beq, find_es, hm]; rfl)
              iterate 2
                refine regv_pure (s1 := ?_) rfl rfl ?_ ?_ ?_
                rotate_left
                · simp [aCts, aCos, hle, hpos, hr0, hc, hlt, hlt2, hv, rowCt, hwrap, hf, str_beq, find_es, hm]; rfl
                · first | (simp [aCts, aCos, hle, hpos, hr0, hc, hlt, hlt2, hv, rowCt, hwrap, hf, str_beq, find_es, hm]; done) | (simp [aCts, aCos, hle, hpos, hr0, hc, hlt, hlt2, hv, rowCt, hwrap, hf, str_beq, find_es, hm]; omega) | (simp [aCts, aCos, hle, hpos, hr0, hc, hlt, hlt2, hv, rowCt, hwrap, hf, str_beq, find_es, hm, rowsOf]; omega) | skip
              first
                | (refine regv_pure (s1 := ?_) rfl ?_ ?_ ?_ ?_
                   rotate_left
                   · simp [aCts, aCos, hle, hpos, hr0, hc, hlt, hlt2, hv, rowCt, hwrap, hf, str_beq, find_es, hm]; done
                   · simp [aCts, aCos, hle, hpos, hr0, hc, hlt, hlt2, hv, rowCt, hwrap, hf, str_beq, find_es, hm]; rfl
                   · first | (simp [aCts, aCos, hle, hpos, hr0, hc, hlt, hlt2, hv, rowCt, hwrap, hf, str_beq, find_es, hm]; done) | (simp [aCts, aCos, hle, hpos, hr0, hc, hlt, hlt2, hv, rowCt, hwrap, hf, str_beq, find_es, hm]; omega) | (simp [aCts, aCos, hle, hpos, hr0, hc, hlt, hlt2, hv, rowCt, hwrap, hf, str_beq, find_es, hm, rowsOf]; omega) | skip)
                | (refine regv_skip (s1 := ?_) ?_ ?_ ?_
                   rotate_left
                   · simp [aCts, aCos, hle, hpos, hr0, hc, hlt, hlt2, hv, rowCt, hwrap, hf, str_beq, find_es, hm]; done
                   · simp [aCts, aCos, hle, hpos, hr0, hc, hlt, hlt2, hv, rowCt, hwrap, hf, str_beq, find_es, hm]; rfl)
              first
                | (refine regv_pure (s1 := ?_) rfl ?_ ?_ ?_ ?_
                   rotate_left
                   · simp [aCts, aCos, hle, hpos, hr0, hc, hlt, hlt2, hv, rowCt, hwrap, hf, str_beq, find_es, hm]; done
                   · simp [aCts, aCos, hle, hpos, hr0, hc, hlt, hlt2, hv, rowCt, hwrap, hf, str_beq, find_es, hm]; rfl
                   · first | (simp [aCts, aCos, hle, hpos, hr0, hc, hlt, hlt2, hv, rowCt, hwrap, hf, str_beq, find_es, hm]; done) | (simp [aCts, aCos, hle, hpos, hr0, hc, hlt, hlt2, hv, rowCt, hwrap, hf, str_beq, find_es, hm]; omega) | (simp [aCts, aCos, hle, hpos, hr0, hc, hlt, hlt2, hv, rowCt, hwrap, hf, str_beq, find_es, hm, rowsOf]; omega) | skip)
                | (refine regv_skip (s1 := ?_) ?_ ?_ ?_
                   rotate_left
                   · simp [aCts, aCos, hle, hpos, hr0, hc, hlt, hlt2, hv, rowCt, hwrap, hf, str_beq, find_es, hm]; done
                   · simp [aCts, aCos, hle, hpos, hr0, hc, hlt, hlt2, hv, rowCt, hwrap, hf, str_beq, find_es, hm]; rfl)
              first
                | (refine regv_pure (s1 := ?_) rfl ?_ ?_ ?_ ?_
                   rotate_left
                   · simp [aCts, aCos, hle, hpos, hr0, hc, hlt, hlt2, hv, rowCt, hwrap, hf, str_beq, find_es, hm]; done
                   · simp [aCts, aCos, hle, hpos, hr0, hc, hlt, hlt2, hv, rowCt, hwrap, hf, str_beq, find_es, hm]; rfl
                   · first | (simp [aCts, aCos, hle, hpos, hr0, hc, hlt, hlt2, hv, rowCt, hwrap, hf, str_beq, find_es, hm]; done) | (simp [aCts, aCos, hle, hpos, hr0, hc, hlt, hlt2, hv, rowCt, hwrap, hf, str_beq, find_es, hm]; omega) | (simp [aCts, aCos, hle, hpos, hr0, hc, hlt, hlt2, hv, rowCt, hwrap, hf, str_beq, find_es, hm, rowsOf]; omega) | skip)
                | (refine regv_skip (s1 := ?_) ?_ ?_ ?_
                   rotate_left
                   · simp [aCts, aCos, hle, hpos, hr0, hc, hlt, hlt2, hv, rowCt, hwrap, hf, str_beq, find_es, hm]; done
                   · simp [aCts, aCos, hle, hpos, hr0, hc, hlt, hlt2, hv, rowCt, hwrap, hf, str_beq, find_es, hm]; rfl)
              first
                | (refine regv_pure (s1 := ?_) rfl ?_ ?_ ?_ ?_
                   rotate_left
                   · simp [aCts, aCos, hle, hpos, hr0, hc, hlt, hlt2, hv, rowCt, hwrap, hf, str_beq, find_es, hm]; done
                   · simp [aCts, aCos, hle, hpos, hr0, hc, hlt, hlt2, hv, rowCt, hwrap, hf, str_beq, find_es, hm]; rfl
                   · first | (simp [aCts, aCos, hle, hpos, hr0, hc, hlt, hlt2, hv, rowCt, hwrap, hf, str_beq, find_es, hm]; done) | (simp [aCts, aCos, hle, hpos, hr0, hc, hlt, hlt2, hv, rowCt, hwrap, hf, str_beq, find_es, hm]; omega) | (simp [aCts, aCos, hle, hpos, hr0, hc, hlt, hlt2, hv, rowCt, hwrap, hf, str_beq, find_es, hm, rowsOf]; omega) | skip)
                | (refine regv_skip (s1 := ?_) ?_ ?_ ?_
                   rotate_left
                   · simp [aCts, aCos, hle, hpos, hr0, hc, hlt, hlt2, hv, rowCt, hwrap, hf, str_beq, find_es, hm]; done
                   · simp [aCts, aCos, hle, hpos, hr0, hc, hlt, hlt2, hv, rowCt, hwrap, hf, str_beq, find_es, hm]; rfl)
              first
                | (refine regv_pure (s1 := ?_) rfl ?_ ?_ ?_ ?_
                   rotate_left
                   · simp [aCts, aCos, hle, hpos, hr0, hc, hlt, hlt2, hv, rowCt, hwrap, hf, str_beq, find_es, hm]; done
                   · simp [aCts, aCos, hle, hpos, hr0, hc, hlt, hlt2, hv, rowCt, hwrap, hf, str_beq, find_es, hm]; rfl
                   · first | (simp [aCts, aCos, hle, hpos, hr0, hc, hlt, hlt2, hv, rowCt, hwrap, hf, str_beq, find_es, hm]; done) | (simp [aCts, aCos, hle, hpos, hr0, hc, hlt, hlt2, hv, rowCt, hwrap, hf, str_beq, find_es, hm]; omega) | (simp [aCts, aCos, hle, hpos, hr0, hc, hlt, hlt2, hv, rowCt, hwrap, hf, str_beq, find_es, hm, rowsOf]; omega) | skip)
                | (refine regv_skip (s1 := ?_) ?_ ?_ ?_
                   rotate_left
                   · simp [aCts, aCos, hle, hpos, hr0, hc, hlt, hlt2, hv, rowCt, hwrap, hf, str_beq, find_es, hm]; done
                   · simp [aCts, aCos, hle, hpos, hr0, hc, hlt, hlt2, hv, rowCt, hwrap, hf, str_beq, find_es, hm]; rfl)
              iterate 1
                refine regv_pure (s1 := ?_) rfl rfl ?_ ?_ ?_
                rotate_left
                · simp [aCts, aCos, hle, hpos, hr0, hc, hlt, hlt2, hv, rowCt, hwrap, hf, str_beq, find_es, hm]; rfl
                · first | (simp [aCts, aCos, hle, hpos, hr0, hc, hlt, hlt2, hv, rowCt, hwrap, hf, str_beq, find_es, hm]; done) | (simp [aCts, aCos, hle, hpos, hr0, hc, hlt, hlt2, hv, rowCt, hwrap, hf, str_beq, find_es, hm]; omega) | (simp [aCts, aCos, hle, hpos, hr0, hc, hlt, hlt2, hv, rowCt, hwrap, hf, str_beq, find_es, hm, rowsOf]; omega) | skip
              refine regv_nil ?_
              refine Wp.cond false rfl (fun h => by cases h) (fun _ => ?_)
              refine Wp.skip ?_
              show Wp _ _ _ _
              refine Wp.reg (own := fun d => Nat.beq d 19) tt_ok ?_
              iterate 2
                refine regv_pure (s1 := ?_) rfl rfl ?_ ?_ ?_
                rotate_left
                · simp [aCts, aCos, hle, hpos, hr0, hc, hlt, hlt2, hv, rowCt, hwrap, hf, str_beq, find_es, hm]; rfl
                · first | (simp [aCts, aCos, hle, hpos, hr0, hc, hlt, hlt2, hv, rowCt, hwrap, hf, str_beq, find_es, hm]; done) | (simp [aCts, aCos, hle, hpos, hr0, hc, hlt, hlt2, hv, rowCt, hwrap, hf, str_beq, find_es, hm]; omega) | (simp [aCts, aCos, hle, hpos, hr0, hc, hlt, hlt2, hv, rowCt, hwrap, hf, str_beq, find_es, hm, rowsOf]; omega) | skip
              refine regv_nil ?_
              refine loopQ_next (i + 1, ⟨h2, t2, b2, row2⟩) ⟨by simp only; omega, hinv2.skip (by intro d h1 _ _; rw [hc] at h1; cases h1; exact hm), hrow2⟩ (by simp only; omega) ?_
              refine Reloc.mk2 [some 0, some 1, some 2] rfl rfl rfl (by decide) ?_ ?_
              · repeat' first | exact objsLe_nil | refine objsLe_cons ?_ ?_
                all_goals first
                  | (refine ObjLe.var' rfl rfl ?_ rfl
                     repeat' first | exact All2.nil | refine All2.cons ?_ ?_
                     all_goals first | (exact AvLe.refl _ rfl) | (exact AvLe.hptr _ _ _ _ rfl) | (exact AvLe.sl _ _ _ _ rfl) | (exact AvLe.sl' rfl (by simp) (by simp)) | (exact AvLe.mp _ _ rfl) | (exact AvLe.nil _) | (exact AvLe.ghost _ rfl) | (exact AvLe.eq (by simp [aCts, aCos, hle, hpos, hr0, hc, hlt, hlt2, hv, rowCt, hwrap, hf, str_beq, find_es, hm]; done) rfl))
                  | (exact ObjLe.map' rfl rfl)
                  | (exact ObjLe.ghost' rfl (by decide))
                  | (exact ObjLe.arr' rfl rfl (by first | (simp; done) | (simp; omega)) (fun _ _ => rfl))
              · repeat' first | exact chLe_nil | refine chLe_cons ?_ ?_
                all_goals first
                  | (exact AvLe.refl _ rfl)
                  | (exact AvLe.hptr _ _ _ _ rfl)
                  | (exact AvLe.sl _ _ _ _ rfl)
                  | (exact AvLe.sl' rfl (by simp) (by simp))
                  | (exact AvLe.mp _ _ rfl)
                  | (exact AvLe.nil _)
                  | (exact AvLe.ghost _ rfl)
                  | (exact AvLe.eq (by simp [aCts, aCos, hle, hpos, hr0, hc, hlt, hlt2, hv, rowCt, hwrap, hf, str_beq, find_es, hm]; done) rfl)
            ·
              have hsm := hinv2.small
              have hbn := hinv2.bound
              refine Wp.reg_seq (own := fun d => Nat.beq d 19) tt_ok ?_
              iterate 1
                refine regv_pure (s1 := ?_) rfl rfl ?_ ?_ ?_
                rotate_left
                · simp [aCts, aCos, hle, hpos, hr0, hc, hlt, hlt2, hv, rowCt, hwrap, hf, str_beq, find_es, hm, put_es]; rfl
                · first | (simp [aCts, aCos, hle, hpos, hr0, hc, hlt, hlt2, hv, rowCt, hwrap, hf, str_beq, find_es, hm, put_es]; done) | (simp [aCts, aCos, hle, hpos, hr0, hc, hlt, hlt2, hv, rowCt, hwrap, hf, str_beq, find_es, hm, put_es]; omega) | (simp [aCts, aCos, hle, hpos, hr0, hc, hlt, hlt2, hv, rowCt, hwrap, hf, str_beq, find_es, hm, put_es, rowsOf]; omega) | skip
              refine regv_nil ?_
              refine Wp.seq ?_
              refine Wp.cond true rfl (fun _ => ?_) (fun h => by cases h)
              refine Wp.skip ?_
              show Wp _ _ _ _
              refine Wp.seq ?_
              refine Wp.block ?_
              refine Wp.reg_seq (own := fun d => Nat.beq d 19) tt_ok ?_
              iterate 6
                refine regv_pure (s1 := ?_) rfl rfl ?_ ?_ ?_
                rotate_left
                · simp [aCts, aCos, hle, hpos, hr0, hc, hlt, hlt2, hv, rowCt, hwrap, hf, str_beq, find_es, hm, put_es]; rfl
                · first | (simp [aCts, aCos, hle, hpos, hr0, hc, hlt, hlt2, hv, rowCt, hwrap, hf, str_beq, find_es, hm, put_es]; done) | (simp [aCts, aCos, hle, hpos, hr0, hc, hlt, hlt2, hv, rowCt, hwrap, hf, str_beq, find_es, hm, put_es]; omega) | (simp [aCts, aCos, hle, hpos, hr0, hc, hlt, hlt2, hv, rowCt, hwrap, hf, str_beq, find_es, hm, put_es, rowsOf]; omega) | skip
              refine regv_nil ?_
              refine Wp.reg_seq (own := fun d => Nat.beq d 19) tt_ok ?_
              iterate 5
                refine regv_pure (s1 := ?_) rfl rfl ?_ ?_ ?_
                rotate_left
                · simp [aCts, aCos, hle, hpos, hr0, hc, hlt, hlt2, hv, rowCt, hwrap, hf, str_beq, find_es, hm, put_es]; rfl
                · first | (simp [aCts, aCos, hle, hpos, hr0, hc, hlt, hlt2, hv, rowCt, hwrap, hf, str_beq, find_es, hm, put_es]; done) | (simp [aCts, aCos, hle, hpos, hr0, hc, hlt, hlt2, hv, rowCt, hwrap, hf, str_beq, find_es, hm, put_es]; omega) | (simp [aCts, aCos, hle, hpos, hr0, hc, hlt, hlt2, hv, rowCt, hwrap, hf, str_beq, find_es, hm, put_es, rowsOf]; omega) | skip
              first
                | (refine regv_pure (s1 := ?_) rfl ?_ ?_ ?_ ?_
                   rotate_left
                   · simp [aCts, aCos, hle, hpos, hr0, hc, hlt, hlt2, hv, rowCt, hwrap, hf, str_beq, find_es, hm, put_es]; done
                   · simp [aCts, aCos, hle, hpos, hr0, hc, hlt, hlt2, hv, rowCt, hwrap, hf, str_beq, find_es, hm, put_es]; rfl
                   · first | (simp [aCts, aCos, hle, hpos, hr0, hc, hlt, hlt2, hv, rowCt, hwrap, hf, str_beq, find_es, hm, put_es]; done) | (simp [aCts, aCos, hle, hpos, hr0, hc, hlt, hlt2, hv, rowCt, hwrap, hf, str_beq, find_es, hm, put_es]; omega) | (simp [aCts, aCos, hle, hpos, hr0, hc, hlt, hlt2, hv, rowCt, hwrap, hf, str_beq, find_es, hm, put_es, rowsOf]; omega) | skip)
                | (refine regv_skip (s1 := ?_) ?_ ?_ ?_
                   rotate_left
                   · simp [aCts, aCos, hle, hpos, hr0, hc, hlt, hlt2, hv, rowCt, hwrap, hf, str_beq, find_es, hm, put_es]; done
                   · simp [aCts, aCos, hle, hpos, hr0, hc, hlt, hlt2, hv, rowCt, hwrap, hf, str_beq, find_es, hm, put_es]; rfl)
              first
                | (refine regv_pure (s1 := ?_) rfl ?_ ?_ ?_ ?_
                   rotate_left
                   · simp [aCts, aCos, hle, hpos, hr0, hc, hlt, hlt2, hv, rowCt, hwrap, hf, str_beq, find_es, hm, put_es]; done
                   · simp [aCts, aCos, hle, hpos, hr0, hc, hlt, hlt2, hv, rowCt, hwrap, hf, str_beq, find_es, hm, put_es]; rfl
                   · first | (simp [aCts, aCos, hle, hpos, hr0, hc, hlt, hlt2, hv, rowCt, hwrap, hf, str_beq, find_es, hm, put_es]; done) | (simp [aCts, aCos, hle, hpos, hr0, hc, hlt, hlt2, hv, rowCt, hwrap, hf, str_beq, find_es, hm, put_es]; omega) | (simp [aCts, aCos, hle, hpos, hr0, hc, hlt, hlt2, hv, rowCt, hwrap, hf, str_beq, find_es, hm, put_es, rowsOf]; omega) | skip)
                | (refine regv_skip (s1 := ?_) ?_ ?_ ?_
                   rotate_left
                   · simp [aCts, aCos, hle, hpos, hr0, hc, hlt, hlt2, hv, rowCt, hwrap, hf, str_beq, find_es, hm, put_es]; done
                   · simp [aCts, aCos, hle, hpos, hr0, hc, hlt, hlt2, hv, rowCt, hwrap, hf, str_beq, find_es, hm, put_es]; rfl)
              first
                | (refine regv_pure (s1 := ?_) rfl ?_ ?_ ?_ ?_
                   rotate_left
                   · simp [aCts, aCos, hle, hpos, hr0, hc, hlt, hlt2, hv, rowCt, hwrap, hf, str_beq, find_es, hm, put_es]; done
                   · simp [aCts, aCos, hle, hpos, hr0, hc, hlt, hlt2, hv, rowCt, hwrap, hf, str_beq, find_es, hm, put_es]; rfl
                   · first | (simp [aCts, aCos, hle, hpos, hr0, hc, hlt, hlt2, hv, rowCt, hwrap, hf, str_beq, find_es, hm, put_es]; done) | (simp [aCts, aCos, hle, hpos, hr0, hc, hlt, hlt2, hv, rowCt, hwrap, hf, str_beq, find_es, hm, put_es]; omega) | (simp [aCts, aCos, hle, hpos, hr0, hc, hlt, hlt2, hv, rowCt, hwrap, hf, str_beq, find_es, hm, put_es, rowsOf]; omega) | skip)
                | (refine regv_skip (s1 := ?_) ?_ ?_ ?_
                   rotate_left
                   · simp [aCts, aCos, hle, hpos, hr0, hc, hlt, hlt2, hv, rowCt, hwrap, hf, str_beq, find_es, hm, put_es]; done
                   · simp [aCts, aCos, hle, hpos, hr0, hc, hlt, hlt2, hv, rowCt, hwrap, hf, str_beq, find_es, hm, put_es]; rfl)
              first
                | (refine regv_pure (s1 := ?_) rfl ?_ ?_ ?_ ?_
                   rotate_left
                   · simp [aCts, aCos, hle, hpos, hr0, hc, hlt, hlt2, hv, rowCt, hwrap, hf, str_beq, find_es, hm, put_es]; done
                   · simp [aCts, aCos, hle, hpos, hr0, hc, hlt, hlt2, hv, rowCt, hwrap, hf, str_beq, find_es, hm, put_es]; rfl
                   · first | (simp [aCts, aCos, hle, hpos, hr0, hc, hlt, hlt2, hv, rowCt, hwrap, hf, str_beq, find_es, hm, put_es]; done) | (simp [aCts, aCos, hle, hpos, hr0, hc, hlt, hlt2, hv, rowCt, hwrap, hf, str_beq, find_es, hm, put_es]; omega) | (simp [aCts, aCos, hle, hpos, hr0, hc, hlt, hlt2, hv, rowCt, hwrap, hf, str_beq, find_es, hm, put_es, rowsOf]; omega) | skip)
                | (refine regv_skip (s1 := ?_) ?_ ?_ ?_
                   rotate_left
                   · simp [aCts, aCos, hle, hpos, hr0, hc, hlt, hlt2, hv, rowCt, hwrap, hf, str_beq, find_es, hm, put_es]; done
                   · simp [aCts, aCos, hle, hpos, hr0, hc, hlt, hlt2, hv, rowCt, hwrap, hf, str_beq, find_es, hm, put_es]; rfl)
              iterate 2
                refine regv_pure (s1 := ?_) rfl rfl ?_ ?_ ?_
                rotate_left
                · simp [aCts, aCos, hle, hpos, hr0, hc, hlt, hlt2, hv, rowCt, hwrap, hf, str_beq, find_es, hm, put_es]; rfl
                · first | (simp [aCts, aCos, hle, hpos, hr0, hc, hlt, hlt2, hv, rowCt, hwrap, hf, str_beq, find_es, hm, put_es]; done) | (simp [aCts, aCos, hle, hpos, hr0, hc, hlt, hlt2, hv, rowCt, hwrap, hf, str_beq, find_es, hm, put_es]; omega) | (simp [aCts, aCos, hle, hpos, hr0, hc, hlt, hlt2, hv, rowCt, hwrap, hf, str_beq, find_es, hm, put_es, rowsOf]; omega) | skip
              first
                | (refine regv_pure (s1 := ?_) rfl ?_ ?_ ?_ ?_
                   rotate_left
                   · simp [aCts, aCos, hle, hpos, hr0, hc, hlt, hlt2, hv, rowCt, hwrap, hf, str_beq, find_es, hm, put_es]; done
                   · simp [aCts, aCos, hle, hpos, hr0, hc, hlt, hlt2, hv, rowCt, hwrap, hf, str_beq, find_es, hm, put_es]; rfl
                   · first | (simp [aCts, aCos, hle, hpos, hr0, hc, hlt, hlt2, hv, rowCt, hwrap, hf, str_beq, find_es, hm, put_es]; done) | (simp [aCts, aCos, hle, hpos, hr0, hc, hlt, hlt2, hv, rowCt, hwrap, hf, str_beq, find_es, hm, put_es]; omega) | (simp [aCts, aCos, hle, hpos, hr0, hc, hlt, hlt2, hv, rowCt, hwrap, hf, str_beq, find_es, hm, put_es, rowsOf]; omega) | skip)
                | (refine regv_skip (s1 := ?_) ?_ ?_ ?_
                   rotate_left
                   · simp [aCts, aCos, hle, hpos, hr0, hc, hlt, hlt2, hv, rowCt, hwrap, hf, str_beq, find_es, hm, put_es]; done
                   · simp [aCts, aCos, hle, hpos, hr0, hc, hlt, hlt2, hv, rowCt, hwrap, hf, str_beq, find_es, hm, put_es]; rfl)
              first
                | (refine regv_pure (s1 := ?_) rfl ?_ ?_ ?_ ?_
                   rotate_left
                   · simp [aCts, aCos, hle, hpos, hr0, hc, hlt, hlt2, hv, rowCt, hwrap, hf, str_beq, find_es, hm, put_es]; done
                   · simp [aCts, aCos, hle, hpos, hr0, hc, hlt, hlt2, hv, rowCt, hwrap, hf, str_beq, find_es, hm, put_es]; rfl
                   · first | (simp [aCts, aCos, hle, hpos, hr0, hc, hlt, hlt2, hv, rowCt, hwrap, hf, str_beq, find_es, hm, put_es]; done) | (simp [aCts, aCos, hle, hpos, hr0, hc, hlt, hlt2, hv, rowCt, hwrap, hf, str_beq, find_es, hm, put_es]; omega) | (simp [aCts, aCos, hle, hpos, hr0, hc, hlt, hlt2, hv, rowCt, hwrap, hf, str_beq, find_es, hm, put_es, rowsOf]; omega) | skip)
                | (refine regv_skip (s1 := ?_) ?_ ?_ ?_
                   rotate_left
                   · simp [aCts, aCos, hle, hpos, hr0, hc, hlt, hlt2, hv, rowCt, hwrap, hf, str_beq, find_es, hm, put_es]; done
                   · simp [aCts, aCos, hle, hpos, hr0, hc, hlt, hlt2, hv, rowCt, hwrap, hf, str_beq, find_es, hm, put_es]; rfl)
              first
                | (refine regv_pure (s1 := ?_) rfl ?_ ?_ ?_ ?_
                   rotate_left
                   · simp [aCts, aCos, hle, hpos, hr0, hc, hlt, hlt2, hv, rowCt, hwrap, hf, str_beq, find_es, hm, put_es]; done
                   · simp [aCts, aCos, hle, hpos, hr0, hc, hlt, hlt2, hv, rowCt, hwrap, hf, str_beq, find_es, hm, put_es]; rfl
                   · first | (simp [aCts, aCos, hle, hpos, hr0, hc, hlt, hlt2, hv, rowCt, hwrap, hf, str_beq, find_es, hm, put_es]; done) | (simp [aCts, aCos, hle, hpos, hr0, hc, hlt, hlt2, hv, rowCt, hwrap, hf, str_beq, find_es, hm, put_es]; omega) | (simp [aCts, aCos, hle, hpos, hr0, hc, hlt, hlt2, hv, rowCt, hwrap, hf, str_beq, find_es, hm, put_es, rowsOf]; omega) | skip)
                | (refine regv_skip (s1 := ?_) ?_ ?_ ?_
                   rotate_left
                   · simp [aCts, aCos, hle, hpos, hr0, hc, hlt, hlt2, hv, rowCt, hwrap, hf, str_beq, find_es, hm, put_es]; done
                   · simp [aCts, aCos, hle, hpos, hr0, hc, hlt, hlt2, hv, rowCt, hwrap, hf, str_beq, find_es, hm, put_es]; rfl)
              first
                | (refine regv_pure (s1 := ?_) rfl ?_ ?_ ?_ ?_
                   rotate_left
                   · simp [aCts, aCos, hle, hpos, hr0, hc, hlt, hlt2, hv, rowCt, hwrap, hf, str_beq, find_es, hm, put_es]; done
                   · simp [aCts, aCos, hle, hpos, hr0, hc, hlt, hlt2, hv, rowCt, hwrap, hf, str_beq, find_es, hm, put_es]; rfl
                   · first | (simp [aCts, aCos, hle, hpos, hr0, hc, hlt, hlt2, hv, rowCt, hwrap, hf, str_beq, find_es, hm, put_es]; done) | (simp [aCts, aCos, hle, hpos, hr0, hc, hlt, hlt2, hv, rowCt, hwrap, hf, str_beq, find_es, hm, put_es]; omega) | (simp [aCts, aCos, hle, hpos, hr0, hc, hlt, hlt2, hv, rowCt, hwrap, hf, str_beq, find_es, hm, put_es, rowsOf]; omega) | skip)
                | (refine regv_skip (s1 := ?_) ?_ ?_ ?_
                   rotate_left
                   · simp [aCts, aCos, hle, hpos, hr0, hc, hlt, hlt2, hv, rowCt, hwrap, hf, str_beq, find_es, hm, put_es]; done
                   · simp [aCts, aCos, hle, hpos, hr0, hc, hlt, hlt2, hv, rowCt, hwrap, hf, str_beq, find_es, hm, put_es]; rfl)
              first
                | (refine regv_pure (s1 := ?_) rfl ?_ ?_ ?_ ?_
                   rotate_left
                   · simp [aCts, aCos, hle, hpos, hr0, hc, hlt, hlt2, hv, rowCt, hwrap, hf, str_beq, find_es, hm, put_es]; done
                   · simp [aCts, aCos, hle, hpos, hr0, hc, hlt, hlt2, hv, rowCt, hwrap, hf, str_beq, find_es, hm, put_es]; rfl
                   · first | (simp [aCts, aCos, hle, hpos, hr0, hc, hlt, hlt2, hv, rowCt, hwrap, hf, str_beq, find_es, hm, put_es]; done) | (simp [aCts, aCos, hle, hpos, hr0, hc, hlt, hlt2, hv, rowCt, hwrap, hf, str_beq, find_es, hm, put_es]; omega) | (simp [aCts, aCos, hle, hpos, hr0, hc, hlt, hlt2, hv, rowCt, hwrap, hf, str_beq, find_es, hm, put_es, rowsOf]; omega) | skip)
                | (refine regv_skip (s1 := ?_) ?_ ?_ ?_
                   rotate_left
                   · simp [aCts, aCos, hle, hpos, hr0, hc, hlt, hlt2, hv, rowCt, hwrap, hf, str_beq, find_es, hm, put_es]; done
                   · simp [aCts, aCos, hle, hpos, hr0, hc, hlt, hlt2, hv, rowCt, hwrap, hf, str_beq, find_es, hm, put_es]; rfl)
              iterate 1
                refine regv_pure (s1 := ?_) rfl rfl ?_ ?_ ?_
                rotate_left
                · simp [aCts, aCos, hle, hpos, hr0, hc, hlt, hlt2, hv, rowCt, hwrap, hf, str_beq, find_es, hm, put_es]; rfl
                · first | (simp [aCts, aCos, hle, hpos, hr0, hc, hlt, hlt2, hv, rowCt, hwrap, hf, str_beq, find_es, hm, put_es]; done) | (simp [aCts, aCos, hle, hpos, hr0, hc, hlt, hlt2, hv, rowCt, hwrap, hf, str_beq, find_es, hm, put_es]; omega) | (simp [aCts, aCos, hle, hpos, hr0, hc, hlt, hlt2, hv, rowCt, hwrap, hf, str_beq, find_es, hm, put_es, rowsOf]; omega) | skip
              refine regv_nil ?_
              refine Wp.cond true rfl (fun _ => ?_) (fun h => by cases h)
              refine Wp.reg_seq (own := fun d => Nat.beq d 19) tt_ok ?_
              iterate 4
                refine regv_pure (s1 := ?_) rfl rfl ?_ ?_ ?_
                rotate_left
                · simp [aCts, aCos, hle, hpos, hr0, hc, hlt, hlt2, hv, rowCt, hwrap, hf, str_beq, find_es, hm, put_es]; rfl
                · first | (simp [aCts, aCos, hle, hpos, hr0, hc, hlt, hlt2, hv, rowCt, hwrap, hf, str_beq, find_es, hm, put_es]; done) | (simp [aCts, aCos, hle, hpos, hr0, hc, hlt, hlt2, hv, rowCt, hwrap, hf, str_beq, find_es, hm, put_es]; omega) | (simp [aCts, aCos, hle, hpos, hr0, hc, hlt, hlt2, hv, rowCt, hwrap, hf, str_beq, find_es, hm, put_es, rowsOf]; omega) | skip
              refine regv_nil ?_
              refine Wp.reg (own := fun d => Nat.beq d 19) tt_ok ?_
              iterate 6
                refine regv_pure (s1 := ?_) rfl rfl ?_ ?_ ?_
                rotate_left
                · simp [aCts, aCos, hle, hpos, hr0, hc, hlt, hlt2, hv, rowCt, hwrap, hf, str_beq, find_es, hm, put_es]; rfl
                · first | (simp [aCts, aCos, hle, hpos, hr0, hc, hlt, hlt2, hv, rowCt, hwrap, hf, str_beq, find_es, hm, put_es]; done) | (simp [aCts, aCos, hle, hpos, hr0, hc, hlt, hlt2, hv, rowCt, hwrap, hf, str_beq, find_es, hm, put_es]; omega) | (simp [aCts, aCos, hle, hpos, hr0, hc, hlt, hlt2, hv, rowCt, hwrap, hf, str_beq, find_es, hm, put_es, rowsOf]; omega) | skip
              refine regv_nil ?_
              show Wp _ _ _ _
              refine Wp.reg (own := fun d => Nat.beq d 19) tt_ok ?_
              iterate 2
                refine regv_pure (s1 := ?_) rfl rfl ?_ ?_ ?_
                rotate_left
                · simp [aCts, aCos, hle, hpos, hr0, hc, hlt, hlt2, hv, rowCt, hwrap, hf, str_beq, find_es, hm, put_es]; rfl
                · first | (simp [aCts, aCos, hle, hpos, hr0, hc, hlt, hlt2, hv, rowCt, hwrap, hf, str_beq, find_es, hm, put_es]; done) | (simp [aCts, aCos, hle, hpos, hr0, hc, hlt, hlt2, hv, rowCt, hwrap, hf, str_beq, find_es, hm, put_es]; omega) | (simp [aCts, aCos, hle, hpos, hr0, hc, hlt, hlt2, hv, rowCt, hwrap, hf, str_beq, find_es, hm, put_es, rowsOf]; omega) | skip
              refine regv_nil ?_
              refine loopQ_next (i + 1, ⟨h2 ++ [c.to], t2 ++ [c.to], 0, appendRow t2.length (fun k => row2 (b2 + k)) (rowsOf 1 [.str c.to])⟩) ⟨by simp only; omega, hinv2.push hc hv hf hm, ?_⟩ (by simp only; omega) ?_
              ·
                intro k hk
                simp only [List.length_append, List.length_cons, List.length_nil] at hk
                simp only [appendRow, Nat.zero_add]
                split
                · rename_i hlt2; have hq := hrow2 k hlt2; simp only at hq; rw [hq]; simp [List.getD, List.getElem?_append_left hlt2]
                · rename_i hge2; have : k = t2.length := by omega
                  subst this; simp [rowsOf]
              ·
                refine Reloc.mk2 [some 0, some 1, some 4] rfl rfl rfl (by decide) ?_ ?_
                · repeat' first | exact objsLe_nil | refine objsLe_cons ?_ ?_
                  all_goals first
                    | (refine ObjLe.var' rfl rfl ?_ rfl
                       repeat' first | exact All2.nil | refine All2.cons ?_ ?_
                       all_goals first | (exact AvLe.refl _ rfl) | (exact AvLe.hptr _ _ _ _ rfl) | (exact AvLe.sl _ _ _ _ rfl) | (exact AvLe.sl' rfl (by simp) (by simp)) | (exact AvLe.mp _ _ rfl) | (exact AvLe.nil _) | (exact AvLe.ghost _ rfl) | (exact AvLe.eq (by simp [aCts, aCos, hle, hpos, hr0, hc, hlt, hlt2, hv, rowCt, hwrap, hf, str_beq, find_es, hm, put_es]; done) rfl))
                    | (exact ObjLe.map' rfl rfl)
                    | (exact ObjLe.ghost' rfl (by decide))
                    | (exact ObjLe.arr' rfl rfl (by first | (simp; done) | (simp; omega)) (fun _ _ => rfl))
                · repeat' first | exact chLe_nil | refine chLe_cons ?_ ?_
                  all_goals first
                    | (exact AvLe.refl _ rfl)
                    | (exact AvLe.hptr _ _ _ _ rfl)
                    | (exact AvLe.sl _ _ _ _ rfl)
                    | (exact AvLe.sl' rfl (by simp) (by simp))
                    | (exact AvLe.mp _ _ rfl)
                    | (exact AvLe.nil _)
                    | (exact AvLe.ghost _ rfl)
                    | (exact AvLe.eq (by simp [aCts, aCos, hle, hpos, hr0, hc, hlt, hlt2, hv, rowCt, hwrap, hf, str_beq, find_es, hm, put_es]; done) rfl)
          ·
            refine Wp.reg_seq (own := fun d => Nat.beq d 19) tt_ok ?_
            iterate 1
              refine regv_pure (s1 := ?_) rfl rfl ?_ ?_ ?_
              rotate_left
              · simp [aCts, aCos, hle, hpos, hr0, hc, hlt, hlt2, hv, rowCt, hwrap, hf, str_beq]; rfl
              · first | (simp [aCts, aCos, hle, hpos, hr0, hc, hlt, hlt2, hv, rowCt, hwrap, hf, str_beq]; done) | (simp [aCts, aCos, hle, hpos, hr0, hc, hlt, hlt2, hv, rowCt, hwrap, hf, str_beq]; omega) | (simp [aCts, aCos, hle, hpos, hr0, hc, hlt, hlt2, hv, rowCt, hwrap, hf, str_beq, rowsOf]; omega) | skip
            refine regv_nil ?_
            refine Wp.seq ?_
            refine Wp.cond true rfl (fun _ => ?_) (fun h => by cases h)
            refine Wp.skip ?_
            show Wp _ _ _ _
            refine Wp.seq ?_
            refine Wp.block ?_
            refine Wp.reg_seq (own := fun d => Nat.beq d 19) tt_ok ?_
            iterate 6
              refine regv_pure (s1 := ?_) rfl rfl ?_ ?_ ?_
              rotate_left
              · simp [aCts, aCos, hle, hpos, hr0, hc, hlt, hlt2, hv, rowCt, hwrap, hf, str_beq]; rfl
              · first | (simp [aCts, aCos, hle, hpos, hr0, hc, hlt, hlt2, hv, rowCt, hwrap, hf, str_beq]; done) | (simp [aCts, aCos, hle, hpos, hr0, hc, hlt, hlt2, hv, rowCt, hwrap, hf, str_beq]; omega) | (simp [aCts, aCos, hle, hpos, hr0, hc, hlt, hlt2, hv, rowCt, hwrap, hf, str_beq, rowsOf]; omega) | skip
            refine regv_nil ?_
            refine Wp.reg_seq (own := fun d => Nat.beq d 19) tt_ok ?_
            iterate 5
              refine regv_pure (s1 := ?_) rfl rfl ?_ ?_ ?_
              rotate_left
              · simp [aCts, aCos, hle, hpos, hr0, hc, hlt, hlt2, hv, rowCt, hwrap, hf, str_beq]; rfl
              · first | (simp [aCts, aCos, hle, hpos, hr0, hc, hlt, hlt2, hv, rowCt, hwrap, hf, str_beq]; done) | (simp [aCts, aCos, hle, hpos, hr0, hc, hlt, hlt2, hv, rowCt, hwrap, hf, str_beq]; omega) | (simp [aCts, aCos, hle, hpos, hr0, hc, hlt, hlt2, hv, rowCt, hwrap, hf, str_beq, rowsOf]; omega) | skip
            first
              | (refine regv_pure (s1 := ?_) rfl ?_ ?_ ?_ ?_
                 rotate_left
                 · simp [aCts, aCos, hle, hpos, hr0, hc, hlt, hlt2, hv, rowCt, hwrap, hf, str_beq]; done
                 · simp [aCts, aCos, hle, hpos, hr0, hc, hlt, hlt2, hv, rowCt, hwrap, hf, str_beq]; rfl
                 · first | (simp [aCts, aCos, hle, hpos, hr0, hc, hlt, hlt2, hv, rowCt, hwrap, hf, str_beq]; done) | (simp [aCts, aCos, hle, hpos, hr0, hc, hlt, hlt2, hv, rowCt, hwrap, hf, str_beq]; omega) | (simp [aCts, aCos, hle, hpos, hr0, hc, hlt, hlt2, hv, rowCt, hwrap, hf, str_beq, rowsOf]; omega) | skip)
              | (refine regv_skip (s1 := ?_) ?_ ?_ ?_
                 rotate_left
                 · simp [aCts, aCos, hle, hpos, hr0, hc, hlt, hlt2, hv, rowCt, hwrap, hf, str_beq]; done
                 · simp [aCts, aCos, hle, hpos, hr0, hc, hlt, hlt2, hv, rowCt, hwrap, hf, str_beq]; rfl)
            first
              | (refine regv_pure (s1 := ?_) rfl ?_ ?_ ?_ ?_
                 rotate_left
                 · simp [aCts, aCos, hle, hpos, hr0, hc, hlt, hlt2, hv, rowCt, hwrap, hf, str_beq]; done
                 · simp [aCts, aCos, hle, hpos, hr0, hc, hlt, hlt2, hv, rowCt, hwrap, hf, str_beq]; rfl
                 · first | (simp [aCts, aCos, hle, hpos, hr0, hc, hlt, hlt2, hv, rowCt, hwrap, hf, str_beq]; done) | (simp [aCts, aCos, hle, hpos, hr0, hc, hlt, hlt2, hv, rowCt, hwrap, hf, str_beq]; omega) | (simp [aCts, aCos, hle, hpos, hr0, hc, hlt, hlt2, hv, rowCt, hwrap, hf, str_beq, rowsOf]; omega) | skip)
              | (refine regv_skip (s1 := ?_) ?_ ?_ ?_
                 rotate_left
                 · simp [aCts, aCos, hle, hpos, hr0, hc, hlt, hlt2, hv, rowCt, hwrap, hf, str_beq]; done
                 · simp [aCts, aCos, hle, hpos, hr0, hc, hlt, hlt2, hv, rowCt, hwrap, hf, str_beq]; rfl)
            first
              | (refine regv_pure (s1 := ?_) rfl ?_ ?_ ?_ ?_
                 rotate_left
                 · simp [aCts, aCos, hle, hpos, hr0, hc, hlt, hlt2, hv, rowCt, hwrap, hf, str_beq]; done
                 · simp [aCts, aCos, hle, hpos, hr0, hc, hlt, hlt2, hv, rowCt, hwrap, hf, str_beq]; rfl
                 · first | (simp [aCts, aCos, hle, hpos, hr0, hc, hlt, hlt2, hv, rowCt, hwrap, hf, str_beq]; done) | (simp [aCts, aCos, hle, hpos, hr0, hc, hlt, hlt2, hv, rowCt, hwrap, hf, str_beq]; omega) | (simp [aCts, aCos, hle, hpos, hr0, hc, hlt, hlt2, hv, rowCt, hwrap, hf, str_beq, rowsOf]; omega) | skip)
              | (refine regv_skip (s1 := ?_) ?_ ?_ ?_
                 rotate_left
                 · simp [aCts, aCos, hle, hpos, hr0, hc, hlt, hlt2, hv, rowCt, hwrap, hf, str_beq]; done
                 · simp [aCts, aCos, hle, hpos, hr0, hc, hlt, hlt2, hv, rowCt, hwrap, hf, str_beq]; rfl)
            first
              | (refine regv_pure (s1 := ?_) rfl ?_ ?_ ?_ ?_
                 rotate_left
                 · simp [aCts, aCos, hle, hpos, hr0, hc, hlt, hlt2, hv, rowCt, hwrap, hf, str_beq]; done
                 · simp [aCts, aCos, hle, hpos, hr0, hc, hlt, hlt2, hv, rowCt, hwrap, hf, str_beq]; rfl
                 · first | (simp [aCts, aCos, hle, hpos, hr0, hc, hlt, hlt2, hv, rowCt, hwrap, hf, str_beq]; done) | (simp [aCts, aCos, hle, hpos, hr0, hc, hlt, hlt2, hv, rowCt, hwrap, hf, str_beq]; omega) | (simp [aCts, aCos, hle, hpos, hr0, hc, hlt, hlt2, hv, rowCt, hwrap, hf, str_beq, rowsOf]; omega) | skip)
              | (refine regv_skip (s1 := ?_) ?_ ?_ ?_
                 rotate_left
                 · simp [aCts, aCos, hle, hpos, hr0, hc, hlt, hlt2, hv, rowCt, hwrap, hf, str_beq]; done
                 · simp [aCts, aCos, hle, hpos, hr0, hc, hlt, hlt2, hv, rowCt, hwrap, hf, str_beq]; rfl)
            iterate 2
              refine regv_pure (s1 := ?_) rfl rfl ?_ ?_ ?_
              rotate_left
              · simp [aCts, aCos, hle, hpos, hr0, hc, hlt, hlt2, hv, rowCt, hwrap, hf, str_beq]; rfl
              · first | (simp [aCts, aCos, hle, hpos, hr0, hc, hlt, hlt2, hv, rowCt, hwrap, hf, str_beq]; done) | (simp [aCts, aCos, hle, hpos, hr0, hc, hlt, hlt2, hv, rowCt, hwrap, hf, str_beq]; omega) | (simp [aCts, aCos, hle, hpos, hr0, hc, hlt, hlt2, hv, rowCt, hwrap, hf, str_beq, rowsOf]; omega) | skip
            first
              | (refine regv_pure (s1 := ?_) rfl ?_ ?_ ?_ ?_
                 rotate_left
                 · simp [aCts, aCos, hle, hpos, hr0, hc, hlt, hlt2, hv, rowCt, hwrap, hf, str_beq]; done
                 · simp [aCts, aCos, hle, hpos, hr0, hc, hlt, hlt2, hv, rowCt, hwrap, hf, str_beq]; rfl
                 · first | (simp [aCts, aCos, hle, hpos, hr0, hc, hlt, hlt2, hv, rowCt, hwrap, hf, str_beq]; done) | (simp [aCts, aCos, hle, hpos, hr0, hc, hlt, hlt2, hv, rowCt, hwrap, hf, str_beq]; omega) | (simp [aCts, aCos, hle, hpos, hr0, hc, hlt, hlt2, hv, rowCt, hwrap, hf, str_beq, rowsOf]; omega) | skip)
              | (refine regv_skip (s1 := ?_) ?_ ?_ ?_
                 rotate_left
                 · simp [aCts, aCos, hle, hpos, hr0, hc, hlt, hlt2, hv, rowCt, hwrap, hf, str_beq]; done
                 · simp [aCts, aCos, hle, hpos, hr0, hc, hlt, hlt2, hv, rowCt, hwrap, hf, str_beq]; rfl)
            first
              | (refine regv_pure (s1 := ?_) rfl ?_ ?_ ?_ ?_
                 rotate_left
                 · simp [aCts, aCos, hle, hpos, hr0, hc, hlt, hlt2, hv, rowCt, hwrap, hf, str_beq]; done
                 · simp [aCts, aCos, hle, hpos, hr0, hc, hlt, hlt2, hv, rowCt, hwrap, hf, str_beq]; rfl
                 · first | (simp [aCts, aCos, hle, hpos, hr0, hc, hlt, hlt2, hv, rowCt, hwrap, hf, str_beq]; done) | (simp [aCts, aCos, hle, hpos, hr0, hc, hlt, hlt2, hv, rowCt, hwrap, hf, str_beq]; omega) | (simp [aCts, aCos, hle, hpos, hr0, hc, hlt, hlt2, hv, rowCt, hwrap, hf, str_beq, rowsOf]; omega) | skip)
              | (refine regv_skip (s1 := ?_) ?_ ?_ ?_
                 rotate_left
                 · simp [aCts, aCos, hle, hpos, hr0, hc, hlt, hlt2, hv, rowCt, hwrap, hf, str_beq]; done
                 · simp [aCts, aCos, hle, hpos, hr0, hc, hlt, hlt2, hv, rowCt, hwrap, hf, str_beq]; rfl)
            first
              | (refine regv_pure (s1 := ?_) rfl ?_ ?_ ?_ ?_
                 rotate_left
                 · simp [aCts, aCos, hle, hpos, hr0, hc, hlt, hlt2, hv, rowCt, hwrap, hf, str_beq]; done
                 · simp [aCts, aCos, hle, hpos, hr0, hc, hlt, hlt2, hv, rowCt, hwrap, hf, str_beq]; rfl
                 · first | (simp [aCts, aCos, hle, hpos, hr0, hc, hlt, hlt2, hv, rowCt, hwrap, hf, str_beq]; done) | (simp [aCts, aCos, hle, hpos, hr0, hc, hlt, hlt2, hv, rowCt, hwrap, hf, str_beq]; omega) | (simp [aCts, aCos, hle, hpos, hr0, hc, hlt, hlt2, hv, rowCt, hwrap, hf, str_beq, rowsOf]; omega) | skip)
              | (refine regv_skip (s1 := ?_) ?_ ?_ ?_
                 rotate_left
                 · simp [aCts, aCos, hle, hpos, hr0, hc, hlt, hlt2, hv, rowCt, hwrap, hf, str_beq]; done
                 · simp [aCts, aCos, hle, hpos, hr0, hc, hlt, hlt2, hv, rowCt, hwrap, hf, str_beq]; rfl)
            first
              | (refine regv_pure (s1 := ?_) rfl ?_ ?_ ?_ ?_
                 rotate_left
                 · simp [aCts, aCos, hle, hpos, hr0, hc, hlt, hlt2, hv, rowCt, hwrap, hf, str_beq]; done
                 · simp [aCts, aCos, hle, hpos, hr0, hc, hlt, hlt2, hv, rowCt, hwrap, hf, str_beq]; rfl
                 · first | (simp [aCts, aCos, hle, hpos, hr0, hc, hlt, hlt2, hv, rowCt, hwrap, hf, str_beq]; done) | (simp [aCts, aCos, hle, hpos, hr0, hc, hlt, hlt2, hv, rowCt, hwrap, hf, str_beq]; omega) | (simp [aCts, aCos, hle, hpos, hr0, hc, hlt, hlt2, hv, rowCt, hwrap, hf, str_beq, rowsOf]; omega) | skip)
              | (refine regv_skip (s1 := ?_) ?_ ?_ ?_
                 rotate_left
                 · simp [aCts, aCos, hle, hpos, hr0, hc, hlt, hlt2, hv, rowCt, hwrap, hf, str_beq]; done
                 · simp [aCts, aCos, hle, hpos, hr0, hc, hlt, hlt2, hv, rowCt, hwrap, hf, str_beq]; rfl)
            first
              | (refine regv_pure (s1 := ?_) rfl ?_ ?_ ?_ ?_
                 rotate_left
                 · simp [aCts, aCos, hle, hpos, hr0, hc, hlt, hlt2, hv, rowCt, hwrap, hf, str_beq]; done
                 · simp [aCts, aCos, hle, hpos, hr0, hc, hlt, hlt2, hv, rowCt, hwrap, hf, str_beq]; rfl
                 · first | (simp [aCts, aCos, hle, hpos, hr0, hc, hlt, hlt2, hv, rowCt, hwrap, hf, str_beq]; done) | (simp [aCts, aCos, hle, hpos, hr0, hc, hlt, hlt2, hv, rowCt, hwrap, hf, str_beq]; omega) | (simp [aCts, aCos, hle, hpos, hr0, hc, hlt, hlt2, hv, rowCt, hwrap, hf, str_beq, rowsOf]; omega) | skip)
              | (refine regv_skip (s1 := ?_) ?_ ?_ ?_
                 rotate_left
                 · simp [aCts, aCos, hle, hpos, hr0, hc, hlt, hlt2, hv, rowCt, hwrap, hf, str_beq]; done
                 · simp [aCts, aCos, hle, hpos, hr0, hc, hlt, hlt2, hv, rowCt, hwrap, hf, str_beq]; rfl)
            iterate 1
              refine regv_pure (s1 := ?_) rfl rfl ?_ ?_ ?_
              rotate_left
              · simp [aCts, aCos, hle, hpos, hr0, hc, hlt, hlt2, hv, rowCt, hwrap, hf, str_beq]; rfl
              · first | (simp [aCts, aCos, hle, hpos, hr0, hc, hlt, hlt2, hv, rowCt, hwrap, hf, str_beq]; done) | (simp [aCts, aCos, hle, hpos, hr0, hc, hlt, hlt2, hv, rowCt, hwrap, hf, str_beq]; omega) | (simp [aCts, aCos, hle, hpos, hr0, hc, hlt, hlt2, hv, rowCt, hwrap, hf, str_beq, rowsOf]; omega) | skip
            refine regv_nil ?_
            refine Wp.cond false rfl (fun h => by cases h) (fun _ => ?_)
            refine Wp.skip ?_
            show Wp _ _ _ _
            refine Wp.reg (own := fun d => Nat.beq d 19) tt_ok ?_
            iterate 2
              refine regv_pure (s1 := ?_) rfl rfl ?_ ?_ ?_
              rotate_left
              · simp [aCts, aCos, hle, hpos, hr0, hc, hlt, hlt2, hv, rowCt, hwrap, hf, str_beq]; rfl
              · first | (simp [aCts, aCos, hle, hpos, hr0, hc, hlt, hlt2, hv, rowCt, hwrap, hf, str_beq]; done) | (simp [aCts, aCos, hle, hpos, hr0, hc, hlt, hlt2, hv, rowCt, hwrap, hf, str_beq]; omega) | (simp [aCts, aCos, hle, hpos, hr0, hc, hlt, hlt2, hv, rowCt, hwrap, hf, str_beq, rowsOf]; omega) | skip
            refine regv_nil ?_
            refine loopQ_next (i + 1, ⟨h2, t2, b2, row2⟩) ⟨by simp only; omega, hinv2.skip (by intro d h1 _ h3; rw [hc] at h1; cases h1; exact absurd h3 hf), hrow2⟩ (by simp only; omega) ?_
            refine Reloc.mk2 [some 0, some 1, some 2] rfl rfl rfl (by decide) ?_ ?_
            · repeat' first | exact objsLe_nil | refine objsLe_cons ?_ ?_
              all_goals first
                | (refine ObjLe.var' rfl rfl ?_ rfl
                   repeat' first | exact All2.nil | refine All2.cons ?_ ?_
                   all_goals first | (exact AvLe.refl _ rfl) | (exact AvLe.hptr _ _ _ _ rfl) | (exact AvLe.sl _ _ _ _ rfl) | (exact AvLe.sl' rfl (by simp) (by simp)) | (exact AvLe.mp _ _ rfl) | (exact AvLe.nil _) | (exact AvLe.ghost _ rfl) | (exact AvLe.eq (by simp [aCts, aCos, hle, hpos, hr0, hc, hlt, hlt2, hv, rowCt, hwrap, hf, str_beq]; done) rfl))
                | (exact ObjLe.map' rfl rfl)
                | (exact ObjLe.ghost' rfl (by decide))
                | (exact ObjLe.arr' rfl rfl (by first | (simp; done) | (simp; omega)) (fun _ _ => rfl))
            · repeat' first | exact chLe_nil | refine chLe_cons ?_ ?_
              all_goals first
                | (exact AvLe.refl _ rfl)
                | (exact AvLe.hptr _ _ _ _ rfl)
                | (exact AvLe.sl _ _ _ _ rfl)
                | (exact AvLe.sl' rfl (by simp) (by simp))
                | (exact AvLe.mp _ _ rfl)
                | (exact AvLe.nil _)
                | (exact AvLe.ghost _ rfl)
                | (exact AvLe.eq (by simp [aCts, aCos, hle, hpos, hr0, hc, hlt, hlt2, hv, rowCt, hwrap, hf, str_beq]; done) rfl)
      ·
        have hge : ¬ (i : Int) < cs.length := by omega
        have hie : i = cs.length := by omega
        refine Wp.reg_seq (own := fun d => Nat.beq d 19) tt_ok ?_
        iterate 1
          refine regv_pure (s1 := ?_) rfl rfl ?_ ?_ ?_
          rotate_left
          · simp [aCts, aCos, hle, hpos, hr0, hge]; rfl
          · first | (simp [aCts, aCos, hle, hpos, hr0, hge]; done) | (simp [aCts, aCos, hle, hpos, hr0, hge]; omega) | (simp [aCts, aCos, hle, hpos, hr0, hge, rowsOf]; omega) | skip
        refine regv_nil ?_
        refine Wp.seq ?_
        refine Wp.cond false rfl (fun h => by cases h) (fun _ => ?_)
        refine Wp.exit ?_
        rw [hie] at hinv2
        have hsm := hinv2.small
        refine loopQ_next (Q := fun _ _ => True) ⟨h2, t2, b2, row2⟩ ⟨hinv2.done, hrow2⟩ (by simp only [List.length_cons]; omega) ?_
        refine Reloc.mk2 [some 0, some 1, some 2] rfl rfl rfl (by decide) ?_ ?_
        · repeat' first | exact objsLe_nil | refine objsLe_cons ?_ ?_
          all_goals first
            | (refine ObjLe.var' rfl rfl ?_ rfl
               repeat' first | exact All2.nil | refine All2.cons ?_ ?_
               all_goals first | (exact AvLe.refl _ rfl) | (exact AvLe.hptr _ _ _ _ rfl) | (exact AvLe.sl _ _ _ _ rfl) | (exact AvLe.sl' rfl (by simp) (by simp)) | (exact AvLe.mp _ _ rfl) | (exact AvLe.nil _) | (exact AvLe.ghost _ rfl) | (exact AvLe.eq (by simp [aCts, aCos, hle, hpos, hr0, hge]; done) rfl))
            | (exact ObjLe.map' rfl rfl)
            | (exact ObjLe.ghost' rfl (by decide))
            | (exact ObjLe.arr' rfl rfl (by first | (simp; done) | (simp; omega)) (fun _ _ => rfl))
        · repeat' first | exact chLe_nil | refine chLe_cons ?_ ?_
          all_goals first
            | (exact AvLe.refl _ rfl)
            | (exact AvLe.hptr _ _ _ _ rfl)
            | (exact AvLe.sl _ _ _ _ rfl)
            | (exact AvLe.sl' rfl (by simp) (by simp))
            | (exact AvLe.mp _ _ rfl)
            | (exact AvLe.nil _)
            | (exact AvLe.ghost _ rfl)
            | (exact AvLe.eq (by simp [aCts, aCos, hle, hpos, hr0, hge]; done) rfl)
  · rw [if_neg hlen, if_neg hlen]
    have hle : ((on.length : Int) != (cs.length : Int)) = true := by simp; omega
    refine con_of (T := TT0) tt_ok Try.func12 (c := _) (by unfold Try.f12; rfl) Try.ntmps12 (rs := [.tmp 4, .tmp 5]) (by rw [Try.results12]) (by unfold Try.f12; rfl) (by simp) ?_
    simp only [argsCh, aRung, aBools]
    refine Wp.reg_seq (own := fun d => Nat.beq d 19) tt_ok ?_
    iterate 3
      refine regv_pure (s1 := ?_) rfl rfl ?_ ?_ ?_
      rotate_left
      · simp [aCts, aCos, hle]; rfl
      · first | (simp [aCts, aCos, hle]; done) | (simp [aCts, aCos, hle]; omega) | (simp [aCts, aCos, hle, rowsOf]; omega) | skip
    refine regv_nil ?_
    refine Wp.seq ?_
    refine Wp.reg_seq (own := fun d => Nat.beq d 19) tt_ok ?_
    iterate 6
      refine regv_pure (s1 := ?_) rfl rfl ?_ ?_ ?_
      rotate_left
      · simp [aCts, aCos, hle]; rfl
      · first | (simp [aCts, aCos, hle]; done) | (simp [aCts, aCos, hle]; omega) | (simp [aCts, aCos, hle, rowsOf]; omega) | skip
    refine regv_nil ?_
    refine Wp.cond true rfl (fun _ => ?_) (fun h => by cases h)
    refine Wp.reg_seq (own := fun d => Nat.beq d 19) tt_ok ?_
    iterate 2
      refine regv_pure (s1 := ?_) rfl rfl ?_ ?_ ?_
      rotate_left
      · simp [aCts, aCos, hle]; rfl
      · first | (simp [aCts, aCos, hle]; done) | (simp [aCts, aCos, hle]; omega) | (simp [aCts, aCos, hle, rowsOf]; omega) | skip
    refine regv_nil ?_
    refine Wp.ret (endQ_ret0 rfl ?_)
    exact .tups (.cons (.refl _ rfl) (.cons (.refl _ rfl) .nil))

end Go.Proofs.Ytgbgmijighbfbaa

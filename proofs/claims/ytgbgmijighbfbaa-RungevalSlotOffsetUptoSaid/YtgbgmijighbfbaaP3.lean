/- What Conducts computes. -/
import Derived.Test.YtgbgmijighbfbaaP2
set_option linter.unusedSimpArgs false
set_option linter.unusedVariables false
set_option linter.unusedSectionVars false
namespace Go.G
open Go.Av

theorem get_lt {α : Type} {l : List α} {i : Nat} {x : α} (h : l[i]? = some x) : i < l.length := (List.getElem?_eq_some_iff.1 h).1
def strL : Str := ⟨#[76]⟩
def strR : Str := ⟨#[82]⟩

/-- What is reached from the left rail. -/
inductive Reach (cs : List ApiContact) (on : List Bool) : Str → Prop
  | left : Reach cs on strL
  | step (i : Nat) (c : ApiContact) (h1 : cs[i]? = some c) (h2 : on[i]? = some true) (h3 : Reach cs on c.From) : Reach cs on c.To

open Classical in
noncomputable def reachB (cs : List ApiContact) (on : List Bool) : Bool := decide (Reach cs on strR)

def cnt (cs : List ApiContact) (h : List Str) : Nat := (cs.filter fun c => !decide (c.To ∈ h)).length

theorem cnt_le (cs : List ApiContact) (h : List Str) : cnt cs h ≤ cs.length := List.length_filter_le _ _

theorem cnt_lt {c : ApiContact} {h : List Str} (hn : c.To ∉ h) : ∀ {cs : List ApiContact}, c ∈ cs → cnt cs (h ++ [c.To]) + 1 ≤ cnt cs h
  | [], hc => by simp at hc
  | d :: cs, hc => by
    have mono : ∀ cs : List ApiContact, cnt cs (h ++ [c.To]) ≤ cnt cs h := by
      intro cs
      induction cs with
      | nil => exact Nat.le_refl _
      | cons d cs ih =>
        simp only [cnt, List.filter_cons] at ih ⊢
        by_cases e : d.To ∈ h
        · simp [e]; simpa using ih
        · by_cases e2 : d.To = c.To
          · simp [e, e2, hn]; simp at ih; omega
          · simp [e, e2]; simpa using ih
    have hm := mono cs
    simp only [cnt, List.filter_cons] at hm ⊢
    rcases List.mem_cons.1 hc with e | e
    · subst e; simp [hn]; simp at hm; omega
    · have ih := cnt_lt hn e
      simp only [cnt] at ih
      by_cases e1 : d.To ∈ h
      · simp [e1]; simpa using ih
      · by_cases e2 : d.To = c.To
        · simp [e1, e2, hn]; simp at ih; omega
        · simp [e1, e2]; simpa using ih

def Shut (cs : List ApiContact) (on : List Bool) (h : List Str) (x : Str) (n : Nat) : Prop := ∀ i c, i < n → cs[i]? = some c → on[i]? = some true → c.From = x → c.To ∈ h

structure Inv (cs : List ApiContact) (on : List Bool) (h t : List Str) : Prop where
  reach : ∀ x ∈ h, Reach cs on x
  left : strL ∈ h
  shut : ∀ x ∈ h, x ∈ t ∨ Shut cs on h x cs.length
  sub : ∀ x ∈ t, x ∈ h
  small : cnt cs h + t.length ≤ cs.length + 1

structure Inv2 (cs : List ApiContact) (on : List Bool) (n : Str) (M i : Nat) (h t : List Str) : Prop where
  reach : ∀ x ∈ h, Reach cs on x
  left : strL ∈ h
  here : n ∈ h
  shut : ∀ x ∈ h, x ∈ t ∨ Shut cs on h x cs.length ∨ (x = n ∧ Shut cs on h x i)
  sub : ∀ x ∈ t, x ∈ h
  small : cnt cs h + t.length ≤ M
  bound : M ≤ cs.length

theorem Inv.start (cs : List ApiContact) (on : List Bool) : Inv cs on [strL] [strL] :=
  ⟨fun x hx => by simp at hx; subst hx; exact .left, by simp, fun x hx => .inl hx, fun x hx => hx, by have := cnt_le cs [strL]; simp; omega⟩

theorem Inv.pop {cs : List ApiContact} {on : List Bool} {h t : List Str} {n : Str} (hi : Inv cs on h (n :: t)) : Inv2 cs on n (cnt cs h + t.length) 0 h t :=
  ⟨hi.reach, hi.left, hi.sub n (by simp), fun x hx => by
    rcases hi.shut x hx with g | g
    · rcases List.mem_cons.1 g with e | e
      · exact .inr (.inr ⟨e, fun i c h0 => by omega⟩)
      · exact .inl e
    · exact .inr (.inl g), fun x hx => hi.sub x (by simp [hx]), Nat.le_refl _, by have := hi.small; simp at this; omega⟩

theorem Inv2.done {cs : List ApiContact} {on : List Bool} {h t : List Str} {n : Str} {M : Nat} (hi : Inv2 cs on n M cs.length h t) : Inv cs on h t :=
  ⟨hi.reach, hi.left, fun x hx => by
    rcases hi.shut x hx with g | g | ⟨e, g⟩
    · exact .inl g
    · exact .inr g
    · exact .inr g, hi.sub, by have := hi.small; have := hi.bound; omega⟩

theorem Inv2.skip {cs : List ApiContact} {on : List Bool} {h t : List Str} {n : Str} {M i : Nat} (hi : Inv2 cs on n M i h t) (hs : ∀ c, cs[i]? = some c → on[i]? = some true → c.From = n → c.To ∈ h) : Inv2 cs on n M (i + 1) h t :=
  ⟨hi.reach, hi.left, hi.here, fun x hx => by
    rcases hi.shut x hx with g | g | ⟨e, g⟩
    · exact .inl g
    · exact .inr (.inl g)
    · refine .inr (.inr ⟨e, fun k c hk h1 h2 h3 => ?_⟩)
      by_cases hki : k = i
      · subst hki; exact hs c h1 h2 (h3.trans e)
      · exact g k c (by omega) h1 h2 h3, hi.sub, hi.small, hi.bound⟩

theorem Inv2.push {cs : List ApiContact} {on : List Bool} {h t : List Str} {n : Str} {M i : Nat} (hi : Inv2 cs on n M i h t) {c : ApiContact} (h1 : cs[i]? = some c) (h2 : on[i]? = some true) (h3 : c.From = n) (h4 : c.To ∉ h) :
    Inv2 cs on n M (i + 1) (h ++ [c.To]) (t ++ [c.To]) :=
  ⟨fun x hx => by
    rcases List.mem_append.1 hx with g | g
    · exact hi.reach x g
    · simp at g; subst g; exact .step i c h1 h2 (h3 ▸ hi.reach n hi.here), by simp [hi.left], by simp [hi.here], fun x hx => by
    rcases List.mem_append.1 hx with g | g
    · rcases hi.shut x g with g | g | ⟨e, g⟩
      · exact .inl (by simp [g])
      · exact .inr (.inl fun k d hk a1 a2 a3 => by simp [g k d hk a1 a2 a3])
      · refine .inr (.inr ⟨e, fun k d hk a1 a2 a3 => ?_⟩)
        by_cases hki : k = i
        · subst hki; rw [h1] at a1; cases a1; simp
        · have := g k d (by omega) a1 a2 a3; simp [this]
    · exact .inl (by simp at g; simp [g]), fun x hx => by
    rcases List.mem_append.1 hx with g | g
    · simp [hi.sub x g]
    · simp at g; simp [g], by have := cnt_lt h4 (List.mem_of_getElem? h1); have := hi.small; simp; omega, hi.bound⟩

theorem Inv.ends {cs : List ApiContact} {on : List Bool} {h : List Str} (hi : Inv cs on h []) : decide (strR ∈ h) = reachB cs on := by
  have key : ∀ x, Reach cs on x → x ∈ h := by
    intro x hx
    induction hx with
    | left => exact hi.left
    | step i c h1 h2 _ ih =>
      rcases hi.shut c.From ih with g | g
      · simp at g
      · exact g i c (get_lt h1) h1 h2 rfl
  unfold reachB
  by_cases hr : strR ∈ h
  · simp [hr, hi.reach _ hr]
  · have : ¬ Reach cs on strR := fun g => hr (key _ g)
    simp [hr, this]

def ClosedR (cs : List ApiContact) (on : List Bool) (h : List Str) : Prop := ∀ (i : Nat) (c : ApiContact), cs[i]? = some c → on[i]? = some true → c.From ∈ h → c.To ∈ h
def Part (cs : List ApiContact) (on : List Bool) (h : List Str) (n : Nat) : Prop := ∀ (i : Nat) (c : ApiContact), i < n → cs[i]? = some c → on[i]? = some true → c.From ∈ h → c.To ∈ h

structure RInv (cs : List ApiContact) (on : List Bool) (r : Nat) (h : List Str) : Prop where
  reach : ∀ x ∈ h, Reach cs on x
  left : strL ∈ h
  done : ClosedR cs on h ∨ cnt cs h + r ≤ cs.length
  small : cnt cs h + h.length ≤ cs.length + 1

structure RInv2 (cs : List ApiContact) (on : List Bool) (h0 : List Str) (i : Nat) (h : List Str) : Prop where
  reach : ∀ x ∈ h, Reach cs on x
  left : strL ∈ h
  go : (h = h0 ∧ Part cs on h i) ∨ (cnt cs h + 1 ≤ cnt cs h0 ∧ ¬ ClosedR cs on h0)
  small : cnt cs h + h.length ≤ cs.length + 1

theorem RInv.start (cs : List ApiContact) (on : List Bool) : RInv cs on 0 [strL] :=
  ⟨fun x hx => by simp at hx; subst hx; exact .left, by simp, .inr (by have := cnt_le cs [strL]; omega), by have := cnt_le cs [strL]; simp; omega⟩

theorem RInv.pass {cs : List ApiContact} {on : List Bool} {r : Nat} {h : List Str} (hi : RInv cs on r h) : RInv2 cs on h 0 h :=
  ⟨hi.reach, hi.left, .inl ⟨rfl, fun i c h0 => by omega⟩, hi.small⟩

theorem RInv2.next {cs : List ApiContact} {on : List Bool} {r : Nat} {h0 h : List Str} (hr : RInv cs on r h0) (hi : RInv2 cs on h0 cs.length h) : RInv cs on (r + 1) h := by
  refine ⟨hi.reach, hi.left, ?_, hi.small⟩
  rcases hi.go with ⟨e, g⟩ | ⟨g, g2⟩
  · exact .inl fun i c h1 h2 h3 => g i c (get_lt h1) h1 h2 h3
  · rcases hr.done with q | q
    · exact absurd q g2
    · exact .inr (by omega)

theorem RInv2.skip {cs : List ApiContact} {on : List Bool} {i : Nat} {h0 h : List Str} (hi : RInv2 cs on h0 i h) (hs : ∀ c, cs[i]? = some c → on[i]? = some true → c.From ∈ h → c.To ∈ h) : RInv2 cs on h0 (i + 1) h := by
  refine ⟨hi.reach, hi.left, ?_, hi.small⟩
  rcases hi.go with ⟨e, g⟩ | g
  · refine .inl ⟨e, fun k c hk h1 h2 h3 => ?_⟩
    by_cases hki : k = i
    · subst hki; exact hs c h1 h2 h3
    · exact g k c (by omega) h1 h2 h3
  · exact .inr g

theorem RInv2.push {cs : List ApiContact} {on : List Bool} {i : Nat} {h0 h : List Str} (hi : RInv2 cs on h0 i h) {c : ApiContact} (h1 : cs[i]? = some c) (h2 : on[i]? = some true) (h3 : c.From ∈ h) (h4 : c.To ∉ h) : RInv2 cs on h0 (i + 1) (h ++ [c.To]) := by
  have hlt := cnt_lt h4 (List.mem_of_getElem? h1)
  refine ⟨fun x hx => ?_, by simp [hi.left], .inr ?_, by have := hi.small; simp; omega⟩
  · rcases List.mem_append.1 hx with g | g
    · exact hi.reach x g
    · simp at g; subst g; exact .step i c h1 h2 (hi.reach _ h3)
  · rcases hi.go with ⟨e, g⟩ | ⟨g, g2⟩
    · subst e; exact ⟨hlt, fun hc => h4 (hc i c h1 h2 h3)⟩
    · exact ⟨by omega, g2⟩

theorem RInv.ends {cs : List ApiContact} {on : List Bool} {h : List Str} (hi : RInv cs on (cs.length + 1) h) : decide (strR ∈ h) = reachB cs on := by
  have hc : ClosedR cs on h := by
    rcases hi.done with g | g
    · exact g
    · omega
  have hn : cnt cs h + 0 ≤ cs.length + 1 := by have := cnt_le cs h; omega
  exact Inv.ends (h := h) ⟨hi.reach, hi.left, fun x hx => .inr fun i c _ h1 h2 h3 => hc i c h1 h2 (h3 ▸ hx), fun x hx => by simp at hx, by simpa using hn⟩


theorem take_succ {h : List Str} {k : Nat} {x y : Str} (hk : h[k]? = some y) : (x ∈ h.take (k + 1)) ↔ (x ∈ h.take k ∨ y = x) := by
  rw [List.take_add_one, hk]; simp [eq_comm]

def esM (h : List Str) : List (Str × Bool) := h.map fun x => (x, true)
theorem mGet_es (k : Str) : ∀ h : List Str, (mGet (esM h) k).getD false = decide (k ∈ h)
  | [] => rfl
  | x :: h => by
    show (if (k == x) = true then some true else mGet (esM h) k).getD false = _
    by_cases e : k = x
    · subst e; simp
    · have := mGet_es k h; simp [e, this]
theorem mPut_es (k : Str) : ∀ h : List Str, k ∉ h → mPut (esM h) k true = esM (h ++ [k])
  | [], _ => rfl
  | x :: h, hk => by
    show (if (k == x) = true then (k, true) :: esM h else (x, true) :: mPut (esM h) k true) = _
    have e : k ≠ x := fun e => hk (by simp [e])
    have ih := mPut_es k h (fun e => hk (by simp [e]))
    rw [if_neg (by simpa using e), ih]; rfl

theorem cond_loop2 (n : Nat) (r : ApiRung) (on : List Bool) (nd : Str) (M : Nat) (R : Nat → List (Str × Bool) → List Str → Option (Bool × Int)) (hcs : r.Contacts.length ≤ 1000000) (hlen : on.length = r.Contacts.length)
    (hR : ∀ h l p, Inv r.Contacts on h (l.drop p) → p ≤ l.length → cnt r.Contacts h + (l.drop p).length ≤ M → R p (esM h) l = some (reachB r.Contacts on, 0)) :
    ∀ (k i : Nat) (h l : List Str) (p : Nat), i ≤ r.Contacts.length → Inv2 r.Contacts on nd M i h (l.drop p) → p ≤ l.length → r.Contacts.length - i < k →
      rungeval_Conducts_L2 r on R nd k (esM h) l p i = some (reachB r.Contacts on, 0)
  | 0, i, h, l, p, h1, h2, h3, h4 => by omega
  | k + 1, i, h, l, p, h1, h2, h3, h4 => by
    unfold rungeval_Conducts_L2
    by_cases hi : i < r.Contacts.length
    · obtain ⟨c, hc⟩ := get_ex hi
      obtain ⟨v, hv⟩ := get_ex (l := on) (i := i) (by omega)
      have hlt : (i : Int) < r.Contacts.length := by omega
      have hw := wrapN (i := i) (by omega)
      have hsm := h2.small
      have hbd := h2.bound
      simp only [atI_nat, hc, hv, hlt, decide_true, if_true, Option.bind_some, mGet_es, hw]
      have hskip : (∀ d, r.Contacts[i]? = some d → on[i]? = some true → d.From = nd → d.To ∈ h) → rungeval_Conducts_L2 r on R nd k (esM h) l p ((i + 1 : Nat) : Int) = some (reachB r.Contacts on, 0) := fun hs =>
        cond_loop2 n r on nd M R hcs hlen hR k (i + 1) h l p (by omega) (h2.skip hs) h3 (by omega)
      cases v with
      | false => simpa using hskip (fun d _ q => by rw [hv] at q; cases q)
      | true =>
        simp only [if_true]
        by_cases hf : c.From = nd
        · by_cases hm : c.To ∈ h
          · simpa [hf, hm] using hskip (fun d q _ _ => by rw [hc] at q; cases q; exact hm)
          · have hp := h2.push hc hv hf hm
            have hln : l.length - p + [c.To].length ≤ 1000000000 ∧ p ≤ l.length := by
              refine ⟨?_, h3⟩
              have : (l.drop p).length = l.length - p := by simp
              simp; omega
            simp only [hf, decide_true, if_true, hm, decide_false, Bool.not_false, hln, Option.bind_some]
            rw [mPut_es _ _ hm, if_pos ⟨trivial, trivial⟩]
            exact cond_loop2 n r on nd M R hcs hlen hR k (i + 1) (h ++ [c.To]) (l.drop p ++ [c.To]) 0 (by omega) (by simpa using hp) (Nat.zero_le _) (by omega)
        · simpa [hf] using hskip (fun d q _ q3 => by rw [hc] at q; cases q; exact absurd q3 hf)
    · have hge : ¬ (i : Int) < r.Contacts.length := by omega
      have hie : i = r.Contacts.length := by omega
      rw [hie] at h2
      simp only [hge, decide_false, Bool.false_eq_true, if_false]
      exact hR h l p h2.done h3 h2.small

theorem cond_loop1 (n : Nat) (r : ApiRung) (on : List Bool) (hcs : r.Contacts.length ≤ 1000000) (hlen : on.length = r.Contacts.length) (hn : r.Contacts.length < n) :
    ∀ (k : Nat) (h l : List Str) (p : Nat), Inv r.Contacts on h (l.drop p) → p ≤ l.length → cnt r.Contacts h + (l.drop p).length < k →
      rungeval_Conducts_L1 n r on k p (esM h) l = some (reachB r.Contacts on, 0)
  | 0, h, l, p, h1, h2, h3 => by omega
  | k + 1, h, l, p, h1, h2, h3 => by
    unfold rungeval_Conducts_L1
    by_cases hp : p < l.length
    · obtain ⟨nd, hnd⟩ := get_ex hp
      have hd := drop_cons hnd
      have hpos : (((l.length - p : Nat)) : Int) > 0 := by omega
      have h01 : (0 : Nat) ≤ 1 ∧ 1 ≤ (((l.length - p : Nat)) : Int) ∧ (((l.length - p : Nat)) : Int) ≤ (((l.length - p : Nat)) : Int) := by omega
      have ha : atI (l.drop p) 0 = some nd := by rw [hd]; rfl
      rw [hd] at h1 h3
      simp only [hpos, decide_true, if_true, ha, Option.bind_some]
      rw [if_pos h01]
      refine cond_loop2 n r on nd (cnt r.Contacts h + (l.drop (p + 1)).length) _ hcs hlen (fun h' l' p' a b c => ?_) n 0 h l (p + 1) (Nat.zero_le _) h1.pop (by omega) (by omega)
      exact cond_loop1 n r on hcs hlen hn k h' l' p' a b (by simp only [List.length_cons] at h3; omega)
    · have h0 : l.drop p = [] := List.drop_eq_nil_of_le (by omega)
      have hpos : ¬ (((l.length - p : Nat)) : Int) > 0 := by omega
      rw [h0] at h1
      simp only [hpos, decide_false, Bool.false_eq_true, if_false]
      rw [mGet_es, ← h1.ends]; rfl

noncomputable def condP (r : ApiRung) (on : List Bool) : Bool × Int := if on.length = r.Contacts.length then (reachB r.Contacts on, 0) else (false, 2)

theorem rungeval_Conducts_eq (n : Nat) (r : ApiRung) (on : List Bool) (hcs : r.Contacts.length ≤ 1000000) (hn : r.Contacts.length + 1 < n) : rungeval_Conducts n r on = some (condP r on) := by
  unfold rungeval_Conducts condP
  by_cases hlen : on.length = r.Contacts.length
  · have := cond_loop1 n r on hcs hlen (by omega) n [strL] [strL] 0 (by simpa using Inv.start r.Contacts on) (Nat.zero_le _) (by have := cnt_le r.Contacts [strL]; simp; omega)
    simp only [hlen, bne_self_eq_false, Bool.false_eq_true, if_false, if_true, Option.bind_some]
    exact this
  · have : ((on.length : Int) != (r.Contacts.length : Int)) = true := by simp; omega
    simp [this, hlen]

theorem ref_loop2 : ∀ (l : List Str) (k i : Nat), i ≤ l.length → l.length - i < k → l.length ≤ 1000000000 → ¬ strR ∈ l.take i → ref16_Conducts_L2 l k i = some (decide (strR ∈ l), 0)
  | l, 0, i, h1, h2, h3, h4 => by omega
  | l, k + 1, i, h1, h2, h3, h4 => by
    unfold ref16_Conducts_L2
    by_cases hi : i < l.length
    · obtain ⟨c, hc⟩ := get_ex hi
      have hlt : (i : Int) < l.length := by omega
      have hw := wrapN (i := i) (by omega)
      simp only [atI_nat, hc, hlt, decide_true, if_true, Option.bind_some, hw]
      by_cases he : c = strR
      · have hm : strR ∈ l := by rw [← he]; exact List.mem_of_getElem? hc
        have he' : c = (⟨#[82]⟩ : Str) := he
        simp [he', hm]
      · have he' : ¬ c = (⟨#[82]⟩ : Str) := he
        simp only [he', decide_false, Bool.false_eq_true, if_false]
        exact ref_loop2 l k (i + 1) (by omega) (by omega) h3 (fun hm => by
          rcases (take_succ hc).1 hm with g | g
          · exact h4 g
          · exact he g)
    · have hge : ¬ (i : Int) < l.length := by omega
      rw [List.take_of_length_le (by omega)] at h4
      simp [hge, h4]

theorem ref_loop6 (r : ApiRung) (pi : Nat) (c : ApiContact) (hc : r.Contacts[pi]? = some c) (l : List Str) (hl : l.length ≤ 1000000000) (R : Int → List Str → Option (Bool × Int)) :
    ∀ (k i : Nat), i ≤ l.length → l.length - i < k → ref16_Conducts_L6 r pi l R k (decide (c.From ∈ l.take i)) (decide (c.To ∈ l.take i)) i = ref16_Conducts_J5 r pi l R (decide (c.From ∈ l)) (decide (c.To ∈ l))
  | 0, i, h1, h2 => by omega
  | k + 1, i, h1, h2 => by
    unfold ref16_Conducts_L6
    by_cases hi : i < l.length
    · obtain ⟨y, hy⟩ := get_ex hi
      have hlt : (i : Int) < l.length := by omega
      have hw := wrapN (i := i) (by omega)
      have ih := ref_loop6 r pi c hc l hl R k (i + 1) (by omega) (by omega)
      have e1 : decide (c.From ∈ l.take (i + 1)) = (decide (c.From ∈ l.take i) || decide (y = c.From)) := by simp [take_succ hy]
      have e2 : decide (c.To ∈ l.take (i + 1)) = (decide (c.To ∈ l.take i) || decide (y = c.To)) := by simp [take_succ hy]
      rw [e1, e2] at ih
      simp only [atI_nat, hc, hy, hlt, decide_true, if_true, Option.bind_some, hw, ref16_Conducts_J7]
      clear e1 e2
      generalize decide (y = c.From) = bf at ih ⊢
      generalize decide (y = c.To) = bt at ih ⊢
      cases bf <;> cases bt <;> simpa using ih
    · have hge : ¬ (i : Int) < l.length := by omega
      rw [List.take_of_length_le (by omega)]
      simp [hge]

theorem ref_loop4 (n : Nat) (r : ApiRung) (on : List Bool) (pr : Nat) (h0 : List Str) (R : Int → List Str → Option (Bool × Int)) (hcs : r.Contacts.length ≤ 1000000) (hlen : on.length = r.Contacts.length) (hn : r.Contacts.length + 1 < n)
    (hpr : pr ≤ 1000000)
    (hR : ∀ h, RInv2 r.Contacts on h0 r.Contacts.length h → R ((pr + 1 : Nat) : Int) h = some (reachB r.Contacts on, 0)) :
    ∀ (k i : Nat) (h : List Str), i ≤ r.Contacts.length → RInv2 r.Contacts on h0 i h → r.Contacts.length - i < k →
      ref16_Conducts_L4 n r on pr R k i h = some (reachB r.Contacts on, 0)
  | 0, i, h, h1, h2, h3 => by omega
  | k + 1, i, h, h1, h2, h3 => by
    unfold ref16_Conducts_L4
    have hsm := h2.small
    by_cases hi : i < r.Contacts.length
    · obtain ⟨c, hc⟩ := get_ex hi
      obtain ⟨v, hv⟩ := get_ex (l := on) (i := i) (by omega)
      have hlt : (i : Int) < on.length := by omega
      have hw := wrapN (i := i) (by omega)
      have hskip : (∀ d, r.Contacts[i]? = some d → on[i]? = some true → d.From ∈ h → d.To ∈ h) → ref16_Conducts_L4 n r on pr R k ((i + 1 : Nat) : Int) h = some (reachB r.Contacts on, 0) := fun hs =>
        ref_loop4 n r on pr h0 R hcs hlen hn hpr hR k (i + 1) h (by omega) (h2.skip hs) (by omega)
      simp only [atI_nat, hv, hlt, decide_true, if_true, Option.bind_some, hw]
      cases v with
      | false => simpa using hskip (fun d _ q => by rw [hv] at q; cases q)
      | true =>
        simp only [Bool.not_true, Bool.false_eq_true, if_false]
        have h6 := ref_loop6 r i c hc h (by omega) (ref16_Conducts_L4 n r on pr R k) n 0 (Nat.zero_le _) (by omega)
        simp only [List.take_zero, List.not_mem_nil, decide_false, Int.natCast_zero] at h6
        refine Eq.trans h6 ?_
        unfold ref16_Conducts_J5
        simp only [atI_nat, hc, Option.bind_some, hw]
        by_cases hf : c.From ∈ h
        · by_cases ht : c.To ∈ h
          · simpa [hf, ht] using hskip (fun d q _ _ => by rw [hc] at q; cases q; exact ht)
          · have hln : h.length + [c.To].length ≤ 1000000000 := by simp; omega
            simp only [hf, ht, decide_true, decide_false, Bool.not_false, if_true, hln, Option.bind_some]
            exact ref_loop4 n r on pr h0 R hcs hlen hn hpr hR k (i + 1) (h ++ [c.To]) (by omega) (h2.push hc hv hf ht) (by omega)
        · simpa [hf] using hskip (fun d q _ q3 => by rw [hc] at q; cases q; exact absurd q3 hf)
    · have hge : ¬ (i : Int) < on.length := by omega
      have hie : i = r.Contacts.length := by omega
      rw [hie] at h2
      simp only [hge, decide_false, Bool.false_eq_true, if_false, wrapN (i := pr) (by omega)]
      exact hR h h2

theorem ref_loop3 (n : Nat) (r : ApiRung) (on : List Bool) (hcs : r.Contacts.length ≤ 1000000) (hlen : on.length = r.Contacts.length) (hn : r.Contacts.length + 1 < n) :
    ∀ (k pr : Nat) (h : List Str), pr ≤ r.Contacts.length + 1 → RInv r.Contacts on pr h → r.Contacts.length + 1 - pr < k → ref16_Conducts_L3 n r on k pr h = some (reachB r.Contacts on, 0)
  | 0, pr, h, h1, h2, h3 => by omega
  | k + 1, pr, h, h1, h2, h3 => by
    unfold ref16_Conducts_L3
    have hsm := h2.small
    by_cases hp : pr ≤ on.length
    · have hle : (pr : Int) ≤ on.length := by omega
      simp only [hle, decide_true, if_true]
      exact ref_loop4 n r on pr h _ hcs hlen hn (by omega) (fun h' q => ref_loop3 n r on hcs hlen hn k (pr + 1) h' (by omega) (RInv2.next h2 q) (by omega)) n 0 h (Nat.zero_le _) h2.pass (by omega)
    · have hle : ¬ (pr : Int) ≤ on.length := by omega
      have hpe : pr = r.Contacts.length + 1 := by omega
      rw [hpe] at h2
      simp only [hle, decide_false, Bool.false_eq_true, if_false, ref16_Conducts_J1]
      rw [← h2.ends]
      exact ref_loop2 h n 0 (Nat.zero_le _) (by omega) (by omega) (by simp)

theorem ref16_Conducts_eq (n : Nat) (r : ApiRung) (on : List Bool) (hcs : r.Contacts.length ≤ 1000000) (hn : r.Contacts.length + 1 < n) : ref16_Conducts n r on = some (condP r on) := by
  unfold ref16_Conducts condP
  by_cases hlen : on.length = r.Contacts.length
  · have := ref_loop3 n r on hcs hlen hn n 0 [strL] (Nat.zero_le _) (RInv.start r.Contacts on) (by omega)
    simp only [hlen, bne_self_eq_false, Bool.false_eq_true, if_false, if_true, Option.bind_some]
    exact this
  · have : ((on.length : Int) != (r.Contacts.length : Int)) = true := by simp; omega
    simp [this, hlen]

end Go.G

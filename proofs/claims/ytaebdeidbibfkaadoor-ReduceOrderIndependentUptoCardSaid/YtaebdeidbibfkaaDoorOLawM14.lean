/- A rung with a bridge is not reduced to one edge. No law is proved here. -/
import Derived.Test.YtaebdeidbibfkaaDoorOLawM13
import Derived.Test.YtaebdeidbibfkaaDoorOGMod
set_option linter.unusedSimpArgs false
set_option linter.unusedVariables false
set_option linter.unusedSectionVars false
namespace Go.G
open Go.Av

def strX1 : Str := ⟨#[120, 49]⟩
def strX2 : Str := ⟨#[120, 50]⟩
def brC : List ApiContact := [⟨0, ⟨0, 0⟩, strLL, strX1⟩, ⟨0, ⟨0, 0⟩, strX1, strRR⟩, ⟨0, ⟨0, 0⟩, strLL, strX2⟩, ⟨0, ⟨0, 0⟩, strX2, strRR⟩, ⟨0, ⟨0, 0⟩, strX1, strX2⟩]
def brP : List ReducePair := [⟨strLL, strX1⟩, ⟨strX1, strRR⟩, ⟨strLL, strX2⟩, ⟨strX2, strRR⟩, ⟨strX1, strX2⟩]
def tch (p : ReducePair) : Bool := decide (p.from_ = strX1) || decide (p.from_ = strX2) || decide (p.to_ = strX1) || decide (p.to_ = strX2)
theorem tch_iff (p : ReducePair) : tch p = true ↔ p.from_ = strX1 ∨ p.from_ = strX2 ∨ p.to_ = strX1 ∨ p.to_ = strX2 := by
  simp [tch, or_assoc]
theorem sne : strX1 ≠ strX2 ∧ strX1 ≠ strLL ∧ strX1 ≠ strRR ∧ strX2 ≠ strLL ∧ strX2 ≠ strRR ∧ strLL ≠ strRR := by decide
theorem pair_eq {a b c d : Str} (h : (⟨a, b⟩ : ReducePair) = ⟨c, d⟩) : a = c ∧ b = d := by injection h with h1 h2; exact ⟨h1, h2⟩
theorem brP_nodup : brP.Nodup := by
  obtain ⟨h1, h2, h3, h4, h5, h6⟩ := sne
  have g1 := h1.symm; have g2 := h2.symm; have g3 := h3.symm; have g4 := h4.symm; have g5 := h5.symm; have g6 := h6.symm
  simp only [brP, List.nodup_cons, List.mem_cons, List.not_mem_nil, or_false, not_or, List.nodup_nil, and_true, ReducePair.mk.injEq, not_and]
  simp [*]

/-- The edges of the bridge are there, and no other touches its nodes. -/
def BrI (l : List ReduceEdge) : Prop := ((l.map (·.pair)).filter tch).Perm brP

theorem BrI.perm {l l' : List ReduceEdge} (h : BrI l) (p : l.Perm l') : BrI l' := ((p.map _).filter _).symm.trans h

theorem BrI.red {l l' : List ReduceEdge} (h : BrI l) (k : RedP l l') : BrI l' := by
  obtain ⟨K, x, y, r, p, c, e⟩ := k
  have hb : ((x.pair :: y.pair :: r.map (·.pair)).filter tch).Perm brP := h.perm p
  obtain ⟨h1, h2, h3, h4, h5, h6⟩ := sne
  have mem : ∀ q, q ∈ brP → q = x.pair ∨ q = y.pair ∨ q ∈ r.map (·.pair) := fun q hq => by
    have := (List.mem_filter.1 (hb.symm.subset hq)).1
    simpa using this
  have mem2 : ∀ q, q = x.pair ∨ q = y.pair → tch q = true → q ∈ brP := fun q hq ht => hb.subset (List.mem_filter.2 ⟨by rcases hq with rfl | rfl <;> simp, ht⟩)
  have key : tch x.pair = false ∧ tch y.pair = false := by
    rcases c with ⟨_, hp⟩ | ⟨_, hv, hL, hR, hin, hout⟩
    · have : tch x.pair = false := by
        cases ht : tch x.pair with
        | false => rfl
        | true =>
          rw [hp, List.filter_cons_of_pos ht, List.filter_cons_of_pos ht] at hb
          have := hb.symm.nodup brP_nodup
          simp at this
      exact ⟨this, by rw [hp]; exact this⟩
    · have hout' : ∀ q ∈ brP, q.from_ = x.pair.to_ → q = y.pair := fun q hq hf => by
        rcases mem q hq with e | e | e
        · exact absurd (e ▸ hf) (hout x (by simp))
        · exact e
        · obtain ⟨d, hd, rfl⟩ := List.mem_map.1 e
          exact absurd hf (hout d (by simp [hd]))
      have hin' : ∀ q ∈ brP, q.to_ = x.pair.to_ → q = x.pair := fun q hq hf => by
        rcases mem q hq with e | e | e
        · exact e
        · exact absurd (e ▸ hf) (hin y (by simp))
        · obtain ⟨d, hd, rfl⟩ := List.mem_map.1 e
          exact absurd hf (hin d (by simp [hd]))
      have n1 : x.pair.to_ ≠ strX1 := fun e => by
        have a := hout' ⟨strX1, strRR⟩ (by simp [brP]) e.symm
        have b := hout' ⟨strX1, strX2⟩ (by simp [brP]) e.symm
        exact h5 (pair_eq (a.trans b.symm)).2.symm
      have n2 : x.pair.to_ ≠ strX2 := fun e => by
        have a := hin' ⟨strLL, strX2⟩ (by simp [brP]) e.symm
        have b := hin' ⟨strX1, strX2⟩ (by simp [brP]) e.symm
        exact h2 (pair_eq (a.trans b.symm)).1.symm
      constructor
      · cases ht : tch x.pair with
        | false => rfl
        | true =>
          have := mem2 _ (.inl rfl) ht
          simp only [brP, List.mem_cons, List.not_mem_nil, or_false] at this
          rcases this with e | e | e | e | e
          · exact absurd (by rw [e]) n1
          · exact absurd (by rw [e]) hR
          · exact absurd (by rw [e]) n2
          · exact absurd (by rw [e]) hR
          · exact absurd (by rw [e]) n2
      · cases ht : tch y.pair with
        | false => rfl
        | true =>
          have := mem2 _ (.inr rfl) ht
          simp only [brP, List.mem_cons, List.not_mem_nil, or_false] at this
          rw [← hv] at hL n1 n2
          rcases this with e | e | e | e | e
          · exact absurd (by rw [e]) hL
          · exact absurd (by rw [e]) n1
          · exact absurd (by rw [e]) hL
          · exact absurd (by rw [e]) n2
          · exact absurd (by rw [e]) n1
  have hj : tch (joinE K x y).pair = false := by
    have a1 := key.1; have a2 := key.2
    show tch ⟨x.pair.from_, y.pair.to_⟩ = false
    rw [tch] at a1 a2 ⊢
    simp only [Bool.or_eq_false_iff] at a1 a2 ⊢
    exact ⟨⟨⟨a1.1.1.1, a1.1.1.2⟩, a2.1.2⟩, a2.2⟩
  have e1 : BrI (joinE K x y :: r) := by
    unfold BrI
    rw [List.map_cons, List.filter_cons_of_neg (by rw [hj]; simp)]
    rwa [List.filter_cons_of_neg (by rw [key.1]; simp), List.filter_cons_of_neg (by rw [key.2]; simp)] at hb
  exact e1.perm e.symm

theorem BrI.steps {l m : List ReduceEdge} (h : BrI l) (k : StepsP l m) : BrI m := by
  induction k with
  | refl p => exact h.perm p
  | head a _ ih => exact ih (h.red a)

theorem BrI.redC {m : List ReduceEdge} (h : BrI m) : (redC m).2 = 14 := by
  have h1 := h.length_eq
  have h2 := List.length_filter_le tch (m.map (·.pair))
  have h3 : brP.length = 5 := rfl
  rw [List.length_map] at h2
  match m with
  | [] => rfl
  | [x] => simp only [List.length_cons, List.length_nil] at h2; omega
  | x :: y :: l => rfl

/-! ### the bridge ahead of a rung -/
/-- No contact touches the bridge's nodes. -/
def Apart (cs : List ApiContact) : Prop := ∀ c ∈ cs, c.From ≠ strX1 ∧ c.From ≠ strX2 ∧ c.To ≠ strX1 ∧ c.To ≠ strX2

theorem edges_pairs : ∀ (cs : List ApiContact) (i : Nat), (edgesS cs i).map (·.pair) = cs.map fun c => (⟨c.From, c.To⟩ : ReducePair)
  | [], i => rfl
  | c :: cs, i => by rw [edgesS, List.map_cons, List.map_cons, edges_pairs cs (i + 1)]

theorem bridge_inv {cs : List ApiContact} (h : Apart cs) : BrI (canon (edgesS (brC ++ cs) 0)) := by
  unfold BrI
  have e : (canon (edgesS (brC ++ cs) 0)).map (·.pair) = (edgesS (brC ++ cs) 0).map (·.pair) := by
    rw [canon, List.map_map]; rfl
  have e2 : (cs.map fun c => (⟨c.From, c.To⟩ : ReducePair)).filter tch = [] := by
    rw [List.filter_eq_nil_iff]
    intro p hp
    obtain ⟨c, hc, rfl⟩ := List.mem_map.1 hp
    obtain ⟨a1, a2, a3, a4⟩ := h c hc
    rw [tch_iff]
    simp [a1, a2, a3, a4]
  have e3 : (brC.map fun c => (⟨c.From, c.To⟩ : ReducePair)).filter tch = brP := by decide
  rw [e, edges_pairs, List.map_append, List.filter_append, e2, e3, List.append_nil]

theorem rank_reach {cs : List ApiContact} {rank : Str → Nat} (hr : ∀ c ∈ cs, rank c.From < rank c.To) {a x : Str} (h : RchReachable cs a x) : rank a ≤ rank x := by
  induction h with
  | refl => exact Nat.le_refl _
  | step h1 _ ih => have := hr _ h1; omega
theorem reach_ne {cs : List ApiContact} {rank : Str → Nat} (hr : ∀ c ∈ cs, rank c.From < rank c.To) {a x : Str} (h : RchReachable cs a x) (hne : a ≠ x) : rank a < rank x := by
  cases h with
  | refl => exact absurd rfl hne
  | step h1 h => have := rank_reach hr h; have := hr _ h1; omega

theorem bridge_flow {cs : List ApiContact} (hA : Apart cs) (h0 : flowS cs = 0) : flowS (brC ++ cs) = 0 := by
  obtain ⟨rank, hrk⟩ := flow_rank h0
  obtain ⟨h1, h2, h3, h4, h5, h6⟩ := sne
  have hd : ∀ x, IsNode cs x → RchReachable cs strLL x ∧ RchAncestors cs strRR x := by
    intro x hx
    unfold flowS at h0
    split at h0
    · cases h0
    · split at h0
      · cases h0
      · split at h0
        · cases h0
        · rename_i q
          exact Classical.byContradiction fun hn => q ⟨x, hx, hn⟩
  have hLR : rank strLL < rank strRR := reach_ne hrk (hd strRR (.inr (.inl rfl))).1 h6
  have hac : Acyc (brC ++ cs) := by
    refine ⟨fun v => if v = strX1 then 3 * rank strLL + 1 else if v = strX2 then 3 * rank strLL + 2 else 3 * rank v, fun c hc => ?_⟩
    rcases List.mem_append.1 hc with hc | hc
    · simp only [brC, List.mem_cons, List.not_mem_nil, or_false] at hc
      rcases hc with rfl | rfl | rfl | rfl | rfl
      · simp only [if_neg h2.symm, if_neg h4.symm, if_true]; omega
      · simp only [if_neg h3.symm, if_neg h5.symm, if_true]; omega
      · simp only [if_neg h2.symm, if_neg h4.symm, if_neg h1.symm, if_true]; omega
      · simp only [if_neg h3.symm, if_neg h5.symm, if_neg h1.symm, if_true]; omega
      · simp only [if_neg h1.symm, if_true]; omega
    · obtain ⟨a1, a2, a3, a4⟩ := hA c hc
      have := hrk c hc
      simp only [if_neg a1, if_neg a2, if_neg a3, if_neg a4]; omega
  have hmono : ∀ c, c ∈ cs → c ∈ brC ++ cs := fun c hc => by simp [hc]
  have rr : RchAncestors (brC ++ cs) strRR strRR := .refl
  have ll : RchReachable (brC ++ cs) strLL strLL := .refl
  have x1r : RchReachable (brC ++ cs) strLL strX1 := .step (c := ⟨0, ⟨0, 0⟩, strLL, strX1⟩) (by simp [brC]) ll
  have x2r : RchReachable (brC ++ cs) strLL strX2 := .step (c := ⟨0, ⟨0, 0⟩, strLL, strX2⟩) (by simp [brC]) ll
  have x1a : RchAncestors (brC ++ cs) strRR strX1 := .step (c := ⟨0, ⟨0, 0⟩, strX1, strRR⟩) (by simp [brC]) rr
  have x2a : RchAncestors (brC ++ cs) strRR strX2 := .step (c := ⟨0, ⟨0, 0⟩, strX2, strRR⟩) (by simp [brC]) rr
  have hcs : ∀ x, IsNode cs x → RchReachable (brC ++ cs) strLL x ∧ RchAncestors (brC ++ cs) strRR x := fun x hx =>
    ⟨rch_mono hmono (hd x hx).1, anc_mono hmono (hd x hx).2⟩
  have hL := hcs strLL (.inl rfl)
  have hR := hcs strRR (.inr (.inl rfl))
  unfold flowS
  rw [if_neg (by simp [brC]), if_neg (show ¬ ¬ Acyc (brC ++ cs) from fun e => e hac), if_neg]
  rintro ⟨x, hx, hn⟩
  refine hn ?_
  rcases hx with rfl | rfl | ⟨c, hc, hx⟩
  · exact hL
  · exact hR
  · rcases List.mem_append.1 hc with hc | hc
    · simp only [brC, List.mem_cons, List.not_mem_nil, or_false] at hc
      rcases hc with rfl | rfl | rfl | rfl | rfl <;> rcases hx with rfl | rfl <;> first | exact hL | exact hR | exact ⟨x1r, x1a⟩ | exact ⟨x2r, x2a⟩
    · exact hcs x (.inr (.inr ⟨c, hc, hx⟩))

theorem bridge_Reduce (n : Nat) (q : ApiRung) (cs : List ApiContact) (hq : q.Contacts = brC ++ cs) (hA : Apart cs) (h0 : flowS cs = 0) (hl : cs.length ≤ 1000) (hn : 10000 ≤ n) : ∃ t, reduce_Reduce n q = some (t, 14) := by
  have hlen : q.Contacts.length = 5 + cs.length := by rw [hq, List.length_append]; rfl
  have hf := flow_exact n q (by omega) (by omega)
  have hb := bridge_flow hA h0
  rw [hq, hb] at hf
  obtain ⟨rank, hrk⟩ := flow_rank hb
  obtain ⟨m, hm, hN⟩ := normal_ex _ (canon (edgesS q.Contacts 0)) (Nat.le_refl _)
  have hR := Reduce_ends n q (by omega) (by omega) hf (by rw [hq]; exact hrk) hm hN
  rw [hq] at hm
  have h14 := ((bridge_inv hA).steps hm).redC
  refine ⟨(redC m).1, ?_⟩
  rw [hR, ← h14]
end Go.G

namespace Go.G
open Go.Av
set_option maxRecDepth 100000
theorem alive15 : law15_alive 2000000 = some true := by decide +kernel
end Go.G

namespace Go.G
open Go.Av

theorem tl12_loop (r : ApiRung) (hn : r.Contacts.length ≤ 1500000) : ∀ (k i : Nat) (p : Int), i ≤ r.Contacts.length → r.Contacts.length - i < k → ∃ b : Int, law12_TooLarge_L2 r k p i = some b ∧ (¬ b > 0 → r.Contacts.length ≤ 60)
  | 0, i, p, h, hk => absurd hk (Nat.not_lt_zero _)
  | k + 1, i, p, h, hk => by
    rw [law12_TooLarge_L2]
    by_cases hi : i < r.Contacts.length
    · obtain ⟨x, hx⟩ := get_ex hi
      rw [if_pos (by simpa using hi), atI_nat, hx, Option.bind_some, wrapN (by omega)]
      exact tl12_loop r hn k (i + 1) _ (by omega) (by omega)
    · rw [if_neg (by simpa using hi), law12_TooLarge_J1]
      split
      · exact ⟨1, rfl, fun h => absurd (by decide) h⟩
      · split
        · exact ⟨1, rfl, fun h => absurd (by decide) h⟩
        · rename_i h2
          rw [decide_eq_true_eq] at h2
          exact ⟨0, rfl, fun _ => by omega⟩
theorem tl12 (r : ApiRung) (n : Nat) (hn : r.Contacts.length ≤ 1500000) (hf : r.Contacts.length < n) : ∃ b : Int, law12_TooLarge n r = some b ∧ (¬ b > 0 → r.Contacts.length ≤ 60) :=
  tl12_loop r hn n 0 0 (by omega) (by omega)

/-! ### swaps -/
def swq (X Y p : Nat) : Nat := if p = Y then X else if p = X then Y else p
theorem swq_swq (X Y p : Nat) : swq X Y (swq X Y p) = p := by
  unfold swq
  by_cases h1 : p = Y
  · rw [if_pos h1]
    by_cases h2 : X = Y
    · rw [if_pos h2]; omega
    · rw [if_neg h2, if_pos rfl]; exact h1.symm
  · rw [if_neg h1]
    by_cases h2 : p = X
    · rw [if_pos h2, if_pos rfl]; exact h2.symm
    · rw [if_neg h2, if_neg h1, if_neg h2]
theorem swq_lt {len X Y p : Nat} (hX : X < len) (hY : Y < len) (hp : p < len) : swq X Y p < len := by
  unfold swq; split
  · exact hX
  · split
    · exact hY
    · exact hp
theorem swq_get {α : Type} (l : List α) {X Y : Nat} {a b : α} (ha : l[X]? = some a) (hb : l[Y]? = some b) (p : Nat) : ((l.set X b).set Y a)[p]? = l[swq X Y p]? := by
  have hX := get_lt ha
  have hY := get_lt hb
  unfold swq
  by_cases h1 : p = Y
  · subst h1
    rw [if_pos rfl, ha, List.getElem?_set_self (by simpa using hY)]
  · rw [if_neg h1, List.getElem?_set_ne (fun e => h1 e.symm)]
    by_cases h2 : p = X
    · subst h2
      rw [if_pos rfl, hb, List.getElem?_set_self hX]
    · rw [if_neg h2, List.getElem?_set_ne (fun e => h2 e.symm)]
theorem Bij.swq {len : Nat} {s : Nat → Nat} (h : Bij len s) {X Y : Nat} (hX : X < len) (hY : Y < len) : Bij len fun p => s (swq X Y p) := by
  refine ⟨fun i hi => h.lt _ (swq_lt hX hY hi), fun i j hi hj e => ?_, fun i hi => ?_⟩
  · have := h.inj _ _ (swq_lt hX hY hi) (swq_lt hX hY hj) e
    rw [← swq_swq X Y i, this, swq_swq]
  · obtain ⟨j, hj, e⟩ := h.sur i hi
    exact ⟨Go.G.swq X Y j, swq_lt hX hY hj, by show s (Go.G.swq X Y (Go.G.swq X Y j)) = i; rw [swq_swq]; exact e⟩

/-- What the swaps have made. -/
structure Swp (r : ApiRung) (cs : List ApiContact) (at1 : List Int) (s : Nat → Nat) : Prop where
  bij : Bij r.Contacts.length s
  len : cs.length = r.Contacts.length
  get : ∀ p, p < r.Contacts.length → cs[p]? = r.Contacts[s p]?
  at_ : at1 = (List.range r.Contacts.length).map fun p => ((s p : Nat) : Int)

theorem Swp.step {r : ApiRung} {cs : List ApiContact} {at1 : List Int} {s : Nat → Nat} (h : Swp r cs at1 s) {X Y : Nat} (hX : X < r.Contacts.length) (hY : Y < r.Contacts.length) {a b : ApiContact} {u v : Int}
    (ha : cs[X]? = some a) (hb : cs[Y]? = some b) (hu : at1[X]? = some u) (hv : at1[Y]? = some v) : Swp r ((cs.set X b).set Y a) ((at1.set X v).set Y u) fun p => s (swq X Y p) := by
  refine ⟨h.bij.swq hX hY, by simpa using h.len, fun p hp => ?_, ?_⟩
  · rw [swq_get cs ha hb]; exact h.get _ (swq_lt hX hY hp)
  · refine List.ext_getElem? fun p => ?_
    rw [swq_get at1 hu hv]
    by_cases hp : p < r.Contacts.length
    · rw [h.at_, List.getElem?_map, List.getElem?_map, List.getElem?_range hp, List.getElem?_range (swq_lt hX hY hp)]; rfl
    · have h2 : ¬ swq X Y p < r.Contacts.length := fun hq => hp (by have := swq_lt hX hY hq; rwa [swq_swq] at this)
      rw [h.at_, List.getElem?_map, List.getElem?_map, List.getElem?_eq_none (by simpa using h2), List.getElem?_eq_none (by simpa using hp)]; rfl

theorem rung_br (n : Nat) : law15_rung_o1 (n + 12) [(⟨#[76]⟩ : Str), (⟨#[120, 49]⟩ : Str), (⟨#[120, 49]⟩ : Str), (⟨#[82]⟩ : Str), (⟨#[76]⟩ : Str), (⟨#[120, 50]⟩ : Str), (⟨#[120, 50]⟩ : Str), (⟨#[82]⟩ : Str), (⟨#[120, 49]⟩ : Str), (⟨#[120, 50]⟩ : Str)] = some ⟨(⟨#[]⟩ : Str), brC, [], (⟨#[]⟩ : Str)⟩ := by
  rfl

section
variable (n : Nat) (hn : 2000000 ≤ n) (hal : law15_alive n = some true) (r : ApiRung) (hl1 : 1 ≤ r.Contacts.length) (hl2 : r.Contacts.length ≤ 20) (a1 : List Int) (ha1 : a1.length ≤ 50) (hav : ∀ x ∈ a1, 0 ≤ x ∧ x ≤ 65535)
include hn hal hl1 hl2

theorem oi_J3 (h0 : flowS r.Contacts = 0) (hA : Apart r.Contacts) (r1 : ApiRung) : law15_ReduceOrderIndependent_J3 n r1 (brC ++ r.Contacts) = some true := by
  obtain ⟨t, ht⟩ := bridge_Reduce n ⟨r1.Label, brC ++ r.Contacts, r1.Coils, r1.Jump⟩ r.Contacts rfl hA h0 (by omega) (by omega)
  rw [law15_ReduceOrderIndependent_J3, ht, Option.bind_some, hal]
  rfl

omit hl1 hl2 in
theorem oi_L5 (a b : Str) (R : Int → Option Bool) (p : Int) (hR : a ≠ strX1 → a ≠ strX2 → b ≠ strX1 → b ≠ strX2 → R (IntKind.i64.wrap (p + 1)) = some true) : law15_ReduceOrderIndependent_L5 n p R [a, b] n 0 = some true := by
  obtain ⟨k, hk⟩ : ∃ k, n = k + 3 := ⟨n - 3, by omega⟩
  have go : ∀ k, law15_ReduceOrderIndependent_L5 n p R [a, b] (k + 3) 0 = some true := fun k => by
    have e0 : atI [a, b] 0 = some a := rfl
    have e1 : atI [a, b] ((1 : Nat) : Int) = some b := rfl
    have w0 : IntKind.i64.wrap ((0 : Int) + 1) = ((1 : Nat) : Int) := wrapN (i := 0) (by omega)
    have w1 : IntKind.i64.wrap (((1 : Nat) : Int) + 1) = ((2 : Nat) : Int) := wrapN (i := 1) (by omega)
    rw [law15_ReduceOrderIndependent_L5, if_pos (by simp), e0, Option.bind_some]
    by_cases h1 : a = (⟨#[120, 49]⟩ : Str)
    · rw [if_pos (decide_eq_true h1), hal]; rfl
    rw [if_neg (fun e => h1 (of_decide_eq_true e))]
    by_cases h2 : a = (⟨#[120, 50]⟩ : Str)
    · rw [if_pos (decide_eq_true h2), hal]; rfl
    rw [if_neg (fun e => h2 (of_decide_eq_true e)), w0, law15_ReduceOrderIndependent_L5, if_pos (by simp), e1, Option.bind_some]
    by_cases h3 : b = (⟨#[120, 49]⟩ : Str)
    · rw [if_pos (decide_eq_true h3), hal]; rfl
    rw [if_neg (fun e => h3 (of_decide_eq_true e))]
    by_cases h4 : b = (⟨#[120, 50]⟩ : Str)
    · rw [if_pos (decide_eq_true h4), hal]; rfl
    rw [if_neg (fun e => h4 (of_decide_eq_true e)), w1, law15_ReduceOrderIndependent_L5, if_neg (by simp)]
    exact hR h1 h2 h3 h4
  have := go k
  rwa [← hk] at this

theorem oi_L4 (h0 : flowS r.Contacts = 0) (r1 : ApiRung) : ∀ (q i : Nat), i ≤ r.Contacts.length → r.Contacts.length - i < q → Apart (r.Contacts.take i) → law15_ReduceOrderIndependent_L4 n r r1 (brC ++ r.Contacts) q (i : Int) = some true
  | 0, i, h, hm, _ => absurd hm (Nat.not_lt_zero _)
  | q + 1, i, h, hm, hA => by
    rw [law15_ReduceOrderIndependent_L4]
    by_cases hi : i < r.Contacts.length
    · obtain ⟨c, hc⟩ := get_ex hi
      rw [if_pos (by simpa using hi), atI_nat, hc, Option.bind_some, Option.bind_some]
      refine oi_L5 n hn hal c.From c.To _ _ fun h1 h2 h3 h4 => ?_
      rw [wrapN (by omega)]
      refine oi_L4 h0 r1 q (i + 1) (by omega) (by omega) fun d hd => ?_
      rw [List.take_add_one, hc] at hd
      rcases List.mem_append.1 hd with hd | hd
      · exact hA d hd
      · simp at hd; subst hd; exact ⟨h1, h2, h3, h4⟩
    · rw [if_neg (by simpa using hi)]
      rw [List.take_of_length_le (by omega)] at hA
      exact oi_J3 n hn hal r hl1 hl2 h0 hA r1

theorem oi_J2 {t : TreeTree} {e : Int} (hr : reduce_Reduce n r = some (t, e)) {cs : List ApiContact} {at1 : List Int} {s : Nat → Nat} (h : Swp r cs at1 s) : law15_ReduceOrderIndependent_J2 n r t e cs at1 = some true := by
  have hend : ∀ x : Int, x ≠ 0 → (if (x != 0) = true then (law15_alive n).bind fun r => some r else some false) = some true := fun x hx => by
    rw [if_pos (by simpa using hx), hal]; rfl
  rcases Reduce_perm n r ⟨(⟨#[]⟩ : Str), cs, [], (⟨#[]⟩ : Str)⟩ s h.bij (by omega) (by omega) h.len h.get with ⟨h0, h1, h2⟩ | ⟨h0, m, h1, h2, rank, hi, hsz⟩
  · rw [hr, Option.some.injEq, Prod.mk.injEq] at h1
    obtain ⟨rfl, rfl⟩ := h1
    rw [law15_ReduceOrderIndependent_J2, h2, Option.bind_some]
    dsimp only
    rw [if_neg (by simp), if_pos (by simpa using h0), hal]; rfl
  · rw [hr, Option.some.injEq] at h2
    have bad : ∀ (m : List ReduceEdge), redC m = (.mk 0 0 [], 14) → redC (m.map (renE s)) = (.mk 0 0 [], 14) → reduce_Reduce n ⟨(⟨#[]⟩ : Str), cs, [], (⟨#[]⟩ : Str)⟩ = some (redC m) → (t, e) = redC (m.map (renE s)) → law15_ReduceOrderIndependent_J2 n r t e cs at1 = some true := fun m e1 e2 h1 h2 => by
      rw [e2, Prod.mk.injEq] at h2
      obtain ⟨rfl, rfl⟩ := h2
      rw [law15_ReduceOrderIndependent_J2, h1, e1, Option.bind_some]
      dsimp only
      rw [if_neg (by simp), if_pos (by simp), hal]; rfl
    match m, h1, h2, hi, hsz with
    | [], h1, h2, _, _ => exact bad [] rfl rfl h1 h2
    | x :: y :: l, h1, h2, _, _ => exact bad (x :: y :: l) rfl rfl h1 h2
    | [x], h1, h2, hi, hsz =>
      by_cases hp : x.pair.from_ = strLL ∧ x.pair.to_ = strRR
      · have e1 : redC [x] = (x.t_, 0) := by rw [redC, if_pos hp]
        have e2 : redC ([x].map (renE s)) = (sortedS (ren s x.t_), 0) := by
          show redC [renE s x] = _
          rw [redC, if_pos (show (renE s x).pair.from_ = strLL ∧ (renE s x).pair.to_ = strRR from hp)]; rfl
        rw [e2, Prod.mk.injEq] at h2
        obtain ⟨rfl, rfl⟩ := h2
        have hok := hi.ok x (by simp)
        have hg : Good r.Contacts.length x.t_ := ⟨hok, by have := hi.nd; simpa using this⟩
        have hgr := ren_good h.bij hg
        have hsz1 : szT x.t_ ≤ 40 := by
          simp only [List.map_cons, List.map_nil, List.sum_cons, List.sum_nil] at hsz
          omega
        have hsz2 : szT (ren s x.t_) ≤ 40 := by rw [ren_sz]; exact hsz1
        have hsz3 : szT (sortedS (ren s x.t_)) ≤ 40 := by rw [sortedS_sz]; exact hsz2
        rw [law15_ReduceOrderIndependent_J2, h1, e1, Option.bind_some]
        dsimp only
        rw [if_neg (by simp), if_neg (by simp), law14_Of_eq _ n (by omega) (by omega), Option.bind_some, named_eq s r.Contacts.length at1 h.at_ x.t_ n hok (by omega) (by omega), Option.bind_some,
          rSorted_eq (len := (r.Contacts.length : Int)) _ n hgr (by omega) (by omega), Option.bind_some, law14_Of_eq _ n (by omega) (by omega), Option.bind_some, ref14_Equal_eq _ _ n (by omega) (by omega), Option.bind_some, decide_eq_true rfl,
          if_neg (by simp), Option.bind_some]
        have hrg : law15_rung_o1 n [(⟨#[76]⟩ : Str), (⟨#[120, 49]⟩ : Str), (⟨#[120, 49]⟩ : Str), (⟨#[82]⟩ : Str), (⟨#[76]⟩ : Str), (⟨#[120, 50]⟩ : Str), (⟨#[120, 50]⟩ : Str), (⟨#[82]⟩ : Str), (⟨#[120, 49]⟩ : Str), (⟨#[120, 50]⟩ : Str)] = some ⟨(⟨#[]⟩ : Str), brC, [], (⟨#[]⟩ : Str)⟩ := by
          obtain ⟨k, rfl⟩ : ∃ k, n = k + 12 := ⟨n - 12, by omega⟩
          exact rung_br k
        rw [hrg, Option.bind_some, if_pos (by show brC.length + _ ≤ _; have : brC.length = 5 := rfl; omega), Option.bind_some]
        exact oi_L4 n hn hal r hl1 hl2 h0 _ n 0 (by omega) (by omega) (fun c hc => by simp at hc)
      · have e1 : redC [x] = (.mk 0 0 [], 14) := by rw [redC, if_neg hp]
        have e2 : redC ([x].map (renE s)) = (.mk 0 0 [], 14) := by
          show redC [renE s x] = _
          rw [redC, if_neg (show ¬ ((renE s x).pair.from_ = strLL ∧ (renE s x).pair.to_ = strRR) from hp)]
        exact bad [x] e1 e2 h1 h2

include ha1 hav
theorem oi_L6 {t : TreeTree} {e : Int} (hr : reduce_Reduce n r = some (t, e)) : ∀ (q i : Nat) (cs : List ApiContact) (at1 : List Int) (s : Nat → Nat), Swp r cs at1 s → i ≤ a1.length → a1.length - i < q → law15_ReduceOrderIndependent_L6 n r a1 t e q cs (i : Int) at1 = some true
  | 0, i, cs, at1, s, _, h, hm => absurd hm (Nat.not_lt_zero _)
  | q + 1, i, cs, at1, s, hs, h, hm => by
    rw [law15_ReduceOrderIndependent_L6]
    by_cases hi : i < a1.length
    · obtain ⟨v, hv⟩ := get_ex hi
      obtain ⟨g1, g2⟩ := hav v (List.mem_of_getElem? hv)
      obtain ⟨w, rfl⟩ := Int.eq_ofNat_of_zero_le g1
      have hlen : at1.length = r.Contacts.length := by rw [hs.at_]; simp
      have ht : ∀ p q : Nat, (p : Int).tmod (q : Int) = ((p % q : Nat) : Int) := fun p q => by
        rw [Int.tmod_eq_emod_of_nonneg (by omega)]; omega
      have hX : i % r.Contacts.length < r.Contacts.length := Nat.mod_lt _ (by omega)
      have hY : w % r.Contacts.length < r.Contacts.length := Nat.mod_lt _ (by omega)
      obtain ⟨a, ha⟩ := get_ex (l := cs) (i := i % r.Contacts.length) (by rw [hs.len]; exact hX)
      obtain ⟨b, hb⟩ := get_ex (l := cs) (i := w % r.Contacts.length) (by rw [hs.len]; exact hY)
      obtain ⟨x, hx⟩ := get_ex (l := at1) (i := i % r.Contacts.length) (by rw [hlen]; exact hX)
      obtain ⟨y, hy⟩ := get_ex (l := at1) (i := w % r.Contacts.length) (by rw [hlen]; exact hY)
      obtain ⟨z1, hz1⟩ := get_ex (l := cs.set (i % r.Contacts.length) b) (i := w % r.Contacts.length) (by simpa [hs.len] using hY)
      obtain ⟨z2, hz2⟩ := get_ex (l := at1.set (i % r.Contacts.length) y) (i := w % r.Contacts.length) (by simpa [hlen] using hY)
      have hw : IntKind.i64.wrap ((w : Nat) : Int) = (w : Int) := wrapI (by omega) (by omega)
      rw [if_pos (by simpa using hi), atI_nat, hv, Option.bind_some, hlen, if_pos (by omega), if_pos (by omega), hw, ht, ht, atI_nat, hb, Option.bind_some, atI_nat, ha, Option.bind_some, Option.bind_some, Int.toNat_natCast, Int.toNat_natCast, atI_nat, hz1, Option.bind_some, Option.bind_some,
        atI_nat, hy, Option.bind_some, atI_nat, hx, Option.bind_some, Option.bind_some, atI_nat, hz2, Option.bind_some, Option.bind_some, wrapN (by omega)]
      exact oi_L6 hr q (i + 1) _ _ _ (hs.step hX hY ha hb hx hy) (by omega) (by omega)
    · rw [if_neg (by simpa using hi)]
      exact oi_J2 n hn hal r hl1 hl2 hr hs

theorem oi_L7 {t : TreeTree} {e : Int} (hr : reduce_Reduce n r = some (t, e)) : ∀ (q i : Nat) (l : List Int), i ≤ r.Contacts.length → r.Contacts.length - i < q → l = ((List.range i).map fun p : Nat => (p : Int)) ++ List.replicate (r.Contacts.length - i) 0 →
    law15_ReduceOrderIndependent_L7 n r a1 t e q (i : Int) l = some true
  | 0, i, l, h, hm, _ => absurd hm (Nat.not_lt_zero _)
  | q + 1, i, l, h, hm, hl => by
    rw [law15_ReduceOrderIndependent_L7]
    by_cases hi : i < r.Contacts.length
    · obtain ⟨m, hm'⟩ : ∃ m, r.Contacts.length - i = m + 1 := ⟨r.Contacts.length - i - 1, by omega⟩
      have hat : l[i]? = some 0 := by
        rw [hl, hm', List.getElem?_append_right (by simp)]; simp [List.replicate_succ]
      rw [if_pos (by simpa using hi), atI_nat, hat, Option.bind_some, Option.bind_some, Int.toNat_natCast, wrapN (by omega)]
      refine oi_L7 hr q (i + 1) _ (by omega) (by omega) ?_
      rw [hl, hm', List.replicate_succ, List.set_append_right _ _ (by simp), List.range_succ, List.map_append]
      have : r.Contacts.length - (i + 1) = m := by omega
      simp [this]
    · have : i = r.Contacts.length := by omega
      subst this
      rw [if_neg (by simp), hl, law15_ReduceOrderIndependent_J1]
      simp only [Nat.sub_self, List.replicate_zero, List.append_nil]
      have := oi_L6 n hn hal r hl1 hl2 a1 ha1 hav hr n 0 r.Contacts _ id ⟨⟨fun _ h => h, fun _ _ _ _ h => h, fun i hi => ⟨i, hi, rfl⟩⟩, rfl, fun _ _ => rfl, rfl⟩ (by omega) (by omega)
      exact this
end

theorem oi_law0 (n : Nat) (hn : 2000000 ≤ n) (hal : law15_alive n = some true) (r : ApiRung) (hr : r.Contacts.length ≤ 1500000) (a1 : List Int) (hav : ∀ x ∈ a1, 0 ≤ x ∧ x ≤ 65535) : law15_ReduceOrderIndependent n r a1 = some true := by
  obtain ⟨b, h1, h2⟩ := tl12 r n hr (by omega)
  rw [law15_ReduceOrderIndependent, h1, Option.bind_some]
  by_cases c1 : b > 0
  · rw [if_pos (by simpa using c1), hal]; rfl
  rw [if_neg (by simpa using c1)]
  by_cases c2 : (r.Contacts.length : Int) > 20
  · rw [if_pos (by simpa using c2), hal]; rfl
  rw [if_neg (by simpa using c2)]
  by_cases c3 : (a1.length : Int) > 50
  · rw [if_pos (by simpa using c3), hal]; rfl
  rw [if_neg (by simpa using c3)]
  by_cases c4 : (r.Contacts.length : Int) = 0
  · rw [if_pos (by simpa using c4), hal]; rfl
  rw [if_neg (by simpa using c4)]
  have hre : ∃ t e, reduce_Reduce n r = some (t, e) := by
    have := Reduce_perm n r r id ⟨fun _ h => h, fun _ _ _ _ h => h, fun i hi => ⟨i, hi, rfl⟩⟩ (by omega) (by omega) rfl (fun _ _ => rfl)
    rcases this with ⟨_, h, _⟩ | ⟨_, m, h, _⟩
    · exact ⟨_, _, h⟩
    · exact ⟨(redC m).1, (redC m).2, h⟩
  obtain ⟨t, e, hre⟩ := hre
  rw [hre, Option.bind_some]
  dsimp only
  rw [if_pos (by omega), if_pos (by omega), Option.bind_some, show (0 : Int) = ((0 : Nat) : Int) from rfl]
  exact oi_L7 n hn hal r (by omega) (by omega) a1 (by omega) hav hre n 0 _ (by omega) (by omega) (by simp)

theorem oi_law (r : ApiRung) (hr : r.Contacts.length ≤ 1500000) (a1 : List Int) (hav : ∀ x ∈ a1, 0 ≤ x ∧ x ≤ 65535) : law15_ReduceOrderIndependent 2000000 r a1 = some true :=
  oi_law0 2000000 (Nat.le_refl _) alive15 r hr a1 hav
end Go.G

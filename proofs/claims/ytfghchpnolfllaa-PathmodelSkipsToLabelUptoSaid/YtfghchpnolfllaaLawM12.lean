/- The law of jumps. -/
import Derived.Test.YtfghchpnolfllaaLawM11
set_option linter.unusedSimpArgs false
set_option linter.unusedVariables false
set_option linter.unusedSectionVars false
namespace Go.G
open Go.Av

theorem skip_at (ins : List Bool) (bases : List Int) (skip : Str) (hs : skip ≠ noStr) (st : ApiState) (did : List Bool) : ∀ (rs : List ApiRung) (i : Nat), (rs.any fun x => decide (x.Label = skip)) = true →
    ∃ (d : Nat) (q : ApiRung), rs[d]? = some q ∧ q.Label = skip ∧ ladS ins bases rs i skip st did = ladS ins bases (rs.drop d) (i + d) noStr st did
  | [], i, h => by simp at h
  | r :: rs, i, h => by
    by_cases hl : r.Label = skip
    · refine ⟨0, r, rfl, hl, ?_⟩
      simp [ladS, hl]
    · have h2 : (rs.any fun x => decide (x.Label = skip)) = true := by simpa [hl] using h
      obtain ⟨d, q, h3, h4, h5⟩ := skip_at ins bases skip hs st did rs (i + 1) h2
      refine ⟨d + 1, q, by simpa using h3, h4, ?_⟩
      have e : ladS ins bases (r :: rs) i skip st did = ladS ins bases rs (i + 1) skip st did := by
        conv => lhs; unfold ladS
        rw [if_pos ⟨hs, hl⟩]
      rw [e, h5, List.drop_succ_cons, show i + (d + 1) = i + 1 + d by omega]

section
variable (l : ApiLadder) (D : List Bool) (hD : D.length = l.Rungs.length) (hlen : l.Rungs.length ≤ 1000000)
include hD hlen

theorem pass_loop : ∀ (m j k f : Nat), k = j + m → k ≤ D.length → (∀ x, j ≤ x → x < k → D[x]? = some false) → m < f → law20_PathmodelSkipsToLabel_L1 2000000 l D f j = law20_PathmodelSkipsToLabel_L1 2000000 l D (f - m) k
  | 0, j, k, f, h1, h2, h3, h4 => by simp at h1; subst h1; rfl
  | m + 1, j, k, f, h1, h2, h3, h4 => by
    obtain ⟨g, rfl⟩ : ∃ g, f = g + 1 := ⟨f - 1, by omega⟩
    have hx := h3 j (Nat.le_refl _) (by omega)
    have hlt : (j : Int) < D.length := by omega
    have hw := wrapN (i := j) (by omega)
    conv => lhs; unfold law20_PathmodelSkipsToLabel_L1
    simp only [hlt, decide_true, if_true, atI_nat, hx, Option.bind_some, Bool.not_false, hw]
    rw [pass_loop m (j + 1) k g (by omega) h2 (fun x a b => h3 x (by omega) b) (by omega)]
    congr 1; omega

theorem find_loop (p : Int) (R : Int → Option Bool) : ∀ (m j k f : Nat), k = j + m → D[k]? = some true → (∀ x, j ≤ x → x < k → D[x]? = some false) → m < f → law20_PathmodelSkipsToLabel_L3 l D p R f j = law20_PathmodelSkipsToLabel_J2 l D p R k
  | 0, j, k, f, h1, h2, h3, h4 => by
    simp at h1; subst h1
    obtain ⟨g, rfl⟩ : ∃ g, f = g + 1 := ⟨f - 1, by omega⟩
    have hk := get_lt h2
    have hlt : (k : Int) < D.length := by omega
    unfold law20_PathmodelSkipsToLabel_L3
    simp only [hlt, decide_true, if_true, atI_nat, h2, Option.bind_some, Bool.not_true, Bool.false_eq_true, if_false]
  | m + 1, j, k, f, h1, h2, h3, h4 => by
    obtain ⟨g, rfl⟩ : ∃ g, f = g + 1 := ⟨f - 1, by omega⟩
    have hk := get_lt h2
    have hx := h3 j (Nat.le_refl _) (by omega)
    have hlt : (j : Int) < D.length := by omega
    have hw := wrapN (i := j) (by omega)
    unfold law20_PathmodelSkipsToLabel_L3
    simp only [hlt, decide_true, if_true, atI_nat, hx, Option.bind_some, Bool.not_false, hw]
    exact find_loop p R m (j + 1) k g (by omega) h2 (fun x a b => h3 x (by omega) b) (by omega)
end

end Go.G

namespace Go.G
open Go.Av

theorem jump_loop (l : ApiLadder) (ins : List Bool) (bases : List Int) (hlen : l.Rungs.length ≤ 100000) (D : List Bool) (hD : D.length = l.Rungs.length)
    (hj : ∀ (i : Nat) (r : ApiRung), l.Rungs[i]? = some r → r.Jump ≠ noStr → ((l.Rungs.drop (i + 1)).any fun x => decide (x.Label = r.Jump)) = true) :
    ∀ (m i f : Nat) (st : ApiState) (did : List Bool), l.Rungs.length - i ≤ m → i ≤ l.Rungs.length → l.Rungs.length - i < f → did.length = l.Rungs.length → (∀ j, i ≤ j → j < l.Rungs.length → did[j]? = some false) → (ladS ins bases (l.Rungs.drop i) i noStr st did).2 = D →
      law20_PathmodelSkipsToLabel_L1 2000000 l D f i = some true
  | m, i, 0, st, did, h0, h1, h2, h3, h4, h5 => by omega
  | m, i, f + 1, st, did, h0, h1, h2, h3, h4, h5 => by
    by_cases hi : i < l.Rungs.length
    · match m, h0 with
      | 0, h0 => omega
      | m + 1, h0 =>
      obtain ⟨r, hr⟩ := get_ex hi
      have hlt : (i : Int) < D.length := by omega
      have hw := wrapN (i := i) (by omega)
      rw [drop_cons hr] at h5
      unfold ladS at h5
      rw [if_neg (by simp)] at h5
      have hdl : (did.set i true)[i]? = some true := by rw [List.getElem?_set_self (by omega)]
      have hDi : D[i]? = some true := by rw [← h5, ladS_low _ _ _ _ _ _ _ i (by omega)]; exact hdl
      generalize hq : scanS r ins st (bases[i]?.getD 0) = q at h5
      have hd2 : ∀ j, i + 1 ≤ j → j < l.Rungs.length → (did.set i true)[j]? = some false := fun j a b => by rw [List.getElem?_set_ne (by omega)]; exact h4 j (by omega) b
      have hdl2 : (did.set i true).length = l.Rungs.length := by simpa using h3
      unfold law20_PathmodelSkipsToLabel_L1
      simp only [hlt, decide_true, if_true, atI_nat, hDi, Option.bind_some, Bool.not_true, Bool.false_eq_true, if_false, hw]
      by_cases hs : (if q.2.1 = true then r.Jump else noStr) = noStr
      · rw [hs] at h5
        have ih := jump_loop l ins bases hlen D hD hj m (i + 1) f q.1 (did.set i true) (by omega) (by omega) (by omega) hdl2 hd2 h5
        by_cases hend : i + 1 < l.Rungs.length
        · obtain ⟨r1, hr1⟩ := get_ex hend
          have hD1 : D[i + 1]? = some true := by
            rw [drop_cons hr1] at h5
            unfold ladS at h5
            rw [if_neg (by simp)] at h5
            rw [← h5, ladS_low _ _ _ _ _ _ _ (i + 1) (by omega), List.getElem?_set_self (by omega)]
          have hg : ¬ (((i + 1 : Nat) : Int) ≥ (D.length : Int)) := by omega
          simp only [hg, decide_false, Bool.false_eq_true, if_false, hD1, Option.bind_some, if_true, ih]
        · have hg : (((i + 1 : Nat) : Int) ≥ (D.length : Int)) := by omega
          simp only [hg, decide_true, if_true, ih]
      · have hon : q.2.1 = true := by
          cases hb : q.2.1 with
          | true => rfl
          | false => rw [hb] at hs; simp at hs
        rw [hon, if_pos rfl] at h5 hs
        obtain ⟨d, qq, e1, e2, e3⟩ := skip_at ins bases r.Jump hs q.1 (did.set i true) (l.Rungs.drop (i + 1)) (i + 1) (hj i r hr hs)
        rw [e3, List.drop_drop] at h5
        rw [List.getElem?_drop] at e1
        have hk := get_lt e1
        have ih := fun f' hf => jump_loop l ins bases hlen D hD hj m (i + 1 + d) f' q.1 (did.set i true) (by omega) (by omega) hf hdl2 (fun j a b => hd2 j (by omega) b) h5
        have hbet : ∀ x, i + 1 ≤ x → x < i + 1 + d → D[x]? = some false := fun x a b => by
          rw [← h5, ladS_low _ _ _ _ _ _ _ x b]; exact hd2 x a (by omega)
        have hDk : D[i + 1 + d]? = some true := by
          rw [drop_cons e1] at h5
          unfold ladS at h5
          rw [if_neg (by simp)] at h5
          rw [← h5, ladS_low _ _ _ _ _ _ _ (i + 1 + d) (by omega), List.getElem?_set_self (by omega)]
        have hpass := pass_loop l D hD (by omega) d (i + 1) (i + 1 + d) f rfl (by omega) hbet (by omega)
        have hnext : law20_PathmodelSkipsToLabel_L1 2000000 l D f ((i + 1 : Nat) : Int) = some true := hpass.trans (ih (f - d) (by omega))
        have hg : ¬ (((i + 1 : Nat) : Int) ≥ (D.length : Int)) := by omega
        have hfind := find_loop l D hD (by omega) i (law20_PathmodelSkipsToLabel_L1 2000000 l D f) d (i + 1) (i + 1 + d) 2000000 rfl hDk hbet (by omega)
        have hJ2 : law20_PathmodelSkipsToLabel_J2 l D i (law20_PathmodelSkipsToLabel_L1 2000000 l D f) ((i + 1 + d : Nat) : Int) = some true := by
          unfold law20_PathmodelSkipsToLabel_J2
          have hne : (((i + 1 + d : Nat) : Int) == (D.length : Int)) = false := by
            have : ¬ (((i + 1 + d : Nat) : Int) = (D.length : Int)) := by omega
            simpa using this
          have hs' : ¬ r.Jump = (⟨#[]⟩ : Str) := hs
          simp only [hne, Bool.false_eq_true, if_false, atI_nat, hr, e1, Option.bind_some, hs', decide_false, e2, decide_true, Bool.not_true, hw, hnext]
        have hD1 : ∃ b, D[i + 1]? = some b := ⟨_, List.getElem?_eq_getElem (by omega)⟩
        obtain ⟨b, hD1⟩ := hD1
        simp only [hg, decide_false, Bool.false_eq_true, if_false, hD1, Option.bind_some, hnext, hfind, hJ2]
        split <;> rfl
    · have hge : ¬ (i : Int) < D.length := by omega
      unfold law20_PathmodelSkipsToLabel_L1
      simp [hge, alive20]

theorem jump20_law (l : ApiLadder) (st : ApiState) (ins : List Bool) (hb : bigL l) : law20_PathmodelSkipsToLabel 2000000 l st ins = some true := by
  obtain ⟨b, e1, e2⟩ := tl20 l st [ins] hb (by simp)
  unfold law20_PathmodelSkipsToLabel
  simp only [Option.bind_some]
  rw [e1]
  by_cases h : b > 0
  · simp [h, alive20]
  · obtain ⟨h1, h2, h3, h4⟩ := e2 h
    have hsc := pathmodel_Scan_eq l ins st h1 (h2.small (by omega))
    simp only [Option.bind_some, h, decide_false, Bool.false_eq_true, if_false, hsc]
    by_cases he : (ladScan l ins st).2.2 = 0
    · have hb0 : ((ladScan l ins st).2.2 != 0) = false := by rw [he]; rfl
      obtain ⟨hck, hfit, hE, heq⟩ := ladScan_zero he
      have hg := ladS_good l ins h1 hck l.Rungs.length 0 noStr st (List.replicate l.Rungs.length false) (by omega) ⟨hfit, hE, by simp⟩
      rw [List.drop_zero] at hg
      have hlen := h1.len
      have hloop := jump_loop l ins (basesS l) (by omega) _ hg.did (check_ok hck).2.2 l.Rungs.length 0 2000000 st (List.replicate l.Rungs.length false) (by omega) (Nat.zero_le _) (by omega) (by simp) (fun j _ hj => by simp [List.getElem?_replicate, hj]) (by rw [List.drop_zero])
      rw [Int.natCast_zero] at hloop
      have hdl : (ladScan l ins st).2.1.length = l.Rungs.length := by rw [heq]; exact hg.did
      have hb1 : (((ladScan l ins st).2.1.length : Int) != (l.Rungs.length : Int)) = false := by rw [hdl]; simp
      simp only [hb0, hb1, Bool.false_eq_true, if_false]
      rw [heq]; exact hloop
    · have hb0 : ((ladScan l ins st).2.2 != 0) = true := by simpa using he
      simp [hb0, alive20]

end Go.G

/- Check, by both packages. -/
import Derived.Test.YtfghchpnolfllaaLawM10
set_option linter.unusedSimpArgs false
set_option linter.unusedVariables false
set_option linter.unusedSectionVars false
namespace Go.G
open Go.Av

theorem rung_eq (n : Nat) (s : ApiSize) (b : List ApiRung) (r : ApiRung) (hn : 17 < n) (hb : n ≤ 1000000000) (hs : sizeOk s) (hf : fewR n r) (hl : b.length < n) : printer_rung n s b r = some (rungC s b r) := by
  unfold printer_rung rungC
  rw [lex_IsName_eq n _ hn, rest_eq n s r hn hb hs hf, contains86 n b r hl hb]
  by_cases h0 : r.Label = (⟨#[]⟩ : Str)
  · simp [h0]
  · by_cases h1 : nameS r.Label = true
    · by_cases h2 : (b.any fun x => decide (x.Label = r.Label)) = true
      · simp only [h0, h1, h2, decide_false, Bool.not_false, Bool.not_true, Bool.false_eq_true, if_true, if_false, Option.bind_some, reduceCtorEq]
      · have h2' : (b.any fun x => decide (x.Label = r.Label)) = false := by simpa using h2
        simp only [h0, h1, h2', decide_false, Bool.not_false, Bool.not_true, Bool.false_eq_true, if_true, if_false, Option.bind_some, reduceCtorEq]
    · have h1' : nameS r.Label = false := by simpa using h1
      simp [h0, h1']

def jumpsC : List ApiRung → Nat → Int × Int
  | [], i => (i, 0)
  | r :: rs, i => if r.Jump ≠ (⟨#[]⟩ : Str) ∧ (rs.any fun x => decide (x.Label = r.Jump)) = false then (i, 15) else jumpsC rs (i + 1)
def rungsC (s : ApiSize) (l : List ApiRung) : List ApiRung → Nat → Option (Int × Int)
  | [], _ => none
  | r :: rs, i => if rungC s (l.take i) r ≠ 0 then some (i, rungC s (l.take i) r) else rungsC s l rs (i + 1)
def sizesOf (l : ApiLadder) : ApiSize := ⟨l.I, l.Q, l.M, 0⟩
def checkS (l : ApiLadder) : Int × Int :=
  if ¬ sizeOk (sizesOf l) then (0, 3) else if 64 < l.Rungs.length then (0, 10) else (rungsC (sizesOf l) l.Rungs l.Rungs 0).getD (jumpsC l.Rungs 0)

theorem checkSize_eq (n : Nat) (l : ApiLadder) : addr_CheckSize n (sizesOf l) = some (if sizeOk (sizesOf l) then 0 else 3) := by
  unfold addr_CheckSize sizesOf sizeOk
  simp only [within_eq, Option.bind_some]
  by_cases h1 : 0 ≤ l.I ∧ l.I ≤ 256
  · by_cases h2 : 0 ≤ l.Q ∧ l.Q ≤ 256
    · by_cases h3 : 0 ≤ l.M ∧ l.M ≤ 256
      · simp only [h1, h2, h3, and_self]; simp
      · simp only [h1, h2, h3, and_false]; simp
    · simp only [h1, h2, and_false, false_and]; simp
  · simp only [h1, false_and]; simp

theorem check_L2 (n : Nat) (l : ApiLadder) (hl : l.Rungs.length < n) (hb : n ≤ 1000000000) : ∀ (k i : Nat), i ≤ l.Rungs.length → l.Rungs.length - i < k → printer_Check_L2 n l k i = some (jumpsC (l.Rungs.drop i) i)
  | 0, i, h1, h2 => by omega
  | k + 1, i, h1, h2 => by
    unfold printer_Check_L2
    by_cases hi : i < l.Rungs.length
    · obtain ⟨r, hr⟩ := get_ex hi
      have hlt : (i : Int) < l.Rungs.length := by omega
      have hw := wrapN (i := i) (by omega)
      rw [drop_cons hr]
      have ih := check_L2 n l hl hb k (i + 1) (by omega) (by omega)
      simp only [atI_nat, hr, hlt, decide_true, if_true, Option.bind_some, hw, ih, jumpsC]
      have hg : 0 ≤ ((i + 1 : Nat) : Int) ∧ ((i + 1 : Nat) : Int) ≤ (l.Rungs.length : Int) ∧ (l.Rungs.length : Int) ≤ (l.Rungs.length : Int) := by omega
      rw [if_pos hg, Int.toNat_natCast, contains54 n _ r (by rw [List.length_drop]; omega) hb]
      simp only [Option.bind_some]
      by_cases hj : r.Jump = (⟨#[]⟩ : Str)
      · simp [hj]
      · by_cases ha : ((l.Rungs.drop (i + 1)).any fun x => decide (x.Label = r.Jump)) = true
        · simp only [hj, ha, decide_false, Bool.not_false, Bool.not_true, Bool.false_eq_true, if_true, if_false, ne_eq, not_false_iff, reduceCtorEq, and_false]
        · have ha' : ((l.Rungs.drop (i + 1)).any fun x => decide (x.Label = r.Jump)) = false := by simpa using ha
          simp only [hj, ha', decide_false, Bool.not_false, Bool.not_true, Bool.false_eq_true, if_true, if_false, ne_eq, not_false_iff, and_self]
    · have hge : ¬ (i : Int) < l.Rungs.length := by omega
      have hie : i = l.Rungs.length := by omega
      simp [hge, List.drop_eq_nil_of_le (show l.Rungs.length ≤ i by omega), jumpsC, hie]

theorem check_L3 (n : Nat) (l : ApiLadder) (hn : 17 < n) (hl : l.Rungs.length < n) (hb : n ≤ 1000000000) (hs : sizeOk (sizesOf l)) (hf : ∀ r ∈ l.Rungs, fewR n r) : ∀ (k i : Nat), i ≤ l.Rungs.length → l.Rungs.length - i < k →
    printer_Check_L3 n l (sizesOf l) k i = some ((rungsC (sizesOf l) l.Rungs (l.Rungs.drop i) i).getD (jumpsC l.Rungs 0))
  | 0, i, h1, h2 => by omega
  | k + 1, i, h1, h2 => by
    unfold printer_Check_L3
    by_cases hi : i < l.Rungs.length
    · obtain ⟨r, hr⟩ := get_ex hi
      have hlt : (i : Int) < l.Rungs.length := by omega
      have hw := wrapN (i := i) (by omega)
      rw [drop_cons hr]
      have ih := check_L3 n l hn hl hb hs hf k (i + 1) (by omega) (by omega)
      simp only [atI_nat, hr, hlt, decide_true, if_true, Option.bind_some, hw, ih, rungsC]
      have hg : 0 ≤ 0 ∧ 0 ≤ (i : Int) ∧ (i : Int) ≤ (l.Rungs.length : Int) := by omega
      rw [if_pos hg, Int.toNat_natCast, rung_eq n _ _ r hn hb hs (hf r (List.mem_of_getElem? hr)) (by rw [List.length_take]; omega)]
      simp only [Option.bind_some]
      by_cases hz : rungC (sizesOf l) (l.Rungs.take i) r = 0
      · simp [hz]
      · simp [hz]
    · have hge : ¬ (i : Int) < l.Rungs.length := by omega
      have := check_L2 n l hl hb n 0 (Nat.zero_le _) (by omega)
      simp only [Int.natCast_zero, List.drop_zero] at this
      simp [hge, List.drop_eq_nil_of_le (show l.Rungs.length ≤ i by omega), rungsC, printer_Check_J1, this]

theorem printer_Check_eq (n : Nat) (l : ApiLadder) (hn : 17 < n) (hl : l.Rungs.length < n) (hb : n ≤ 1000000000) (hf : ∀ r ∈ l.Rungs, fewR n r) : printer_Check n l = some (checkS l) := by
  unfold printer_Check printer_sizes checkS
  simp only [Option.bind_some]
  rw [show (⟨l.I, l.Q, l.M, 0⟩ : ApiSize) = sizesOf l from rfl, checkSize_eq]
  by_cases hs : sizeOk (sizesOf l)
  · have h3 := check_L3 n l hn hl hb hs hf n 0 (Nat.zero_le _) (by omega)
    simp only [Int.natCast_zero, List.drop_zero] at h3
    by_cases h64 : 64 < l.Rungs.length
    · have : (l.Rungs.length : Int) > 64 := by omega
      simp [hs, h64, this]
    · have : ¬ ((l.Rungs.length : Int) > 64) := by omega
      simp [hs, h64, this, h3]
  · simp [hs]

/-! ### the reference -/
theorem ref_coils (n : Nat) (s : ApiSize) (r : ApiRung) (hl : r.Coils.length ≤ 1000000000) : ∀ (k i : Nat), i ≤ r.Coils.length → r.Coils.length - i < k → ref11_coils_L1 n s r k i = some (coilsC s (r.Coils.drop i))
  | 0, i, h1, h2 => by omega
  | k + 1, i, h1, h2 => by
    unfold ref11_coils_L1
    by_cases hi : i < r.Coils.length
    · obtain ⟨c, hc⟩ := get_ex hi
      have hlt : (i : Int) < r.Coils.length := by omega
      have hw := wrapN (i := i) (by omega)
      rw [drop_cons hc]
      have ih := ref_coils n s r hl k (i + 1) (by omega) (by omega)
      simp only [atI_nat, hc, hlt, decide_true, if_true, Option.bind_some, hw, ref01_CheckAddr_eq, coilsC, partS, ih]
      by_cases hk0 : c.Kind < 0
      · simp [hk0]
      · by_cases hk4 : 3 < c.Kind
        · have : 4 ≤ c.Kind := by omega
          simp [hk0, hk4, this]
        · have : ¬ 4 ≤ c.Kind := by omega
          by_cases hp : addrS s c.A = 0
          · by_cases h0 : c.A.Space = 0 <;> simp [hk0, hk4, this, hp, h0]
          · simp [hk0, hk4, this, hp]
    · have hge : ¬ (i : Int) < r.Coils.length := by omega
      simp [hge, List.drop_eq_nil_of_le (show r.Coils.length ≤ i by omega), coilsC]

theorem ref_contacts (n : Nat) (s : ApiSize) (r : ApiRung) (hn : 17 < n) (hl : r.Contacts.length ≤ 1000000000) : ∀ (k i : Nat), i ≤ r.Contacts.length → r.Contacts.length - i < k → ref11_contacts_L1 n s r k i = some (contactsC s (r.Contacts.drop i))
  | 0, i, h1, h2 => by omega
  | k + 1, i, h1, h2 => by
    unfold ref11_contacts_L1
    by_cases hi : i < r.Contacts.length
    · obtain ⟨c, hc⟩ := get_ex hi
      have hlt : (i : Int) < r.Contacts.length := by omega
      have hw := wrapN (i := i) (by omega)
      rw [drop_cons hc]
      have ih := ref_contacts n s r hn hl k (i + 1) (by omega) (by omega)
      simp only [atI_nat, hc, hlt, decide_true, if_true, Option.bind_some, hw, ref01_CheckAddr_eq, contactsC, partS, ih, ref09_IsName_eq n _ hn]
      by_cases hk0 : c.Kind < 0
      · simp [hk0]
      · by_cases hk4 : 3 < c.Kind
        · have : 4 ≤ c.Kind := by omega
          simp [hk0, hk4, this]
        · have : ¬ 4 ≤ c.Kind := by omega
          by_cases hp : addrS s c.A = 0
          · by_cases h0 : nameS c.From = true
            · by_cases h1 : nameS c.To = true <;> simp [hk0, hk4, this, hp, h0, h1]
            · simp [hk0, hk4, this, hp, h0]
          · simp [hk0, hk4, this, hp]
    · have hge : ¬ (i : Int) < r.Contacts.length := by omega
      simp [hge, List.drop_eq_nil_of_le (show r.Contacts.length ≤ i by omega), contactsC]

theorem ref_rest (n : Nat) (l : ApiLadder) (r : ApiRung) (hn : 17 < n) (hb : n ≤ 1000000000) (hf : fewR n r) : ref11_rung_J1 n l r = some (restC (sizesOf l) r) := by
  obtain ⟨hl, hc⟩ := hf
  have h1 := ref_contacts n (sizesOf l) r hn (by omega) n 0 (Nat.zero_le _) (by omega)
  have h2 := ref_coils n (sizesOf l) r (by omega) n 0 (Nat.zero_le _) (by omega)
  simp only [Int.natCast_zero, List.drop_zero] at h1 h2
  have e1 : ref11_contacts n (sizesOf l) r = some (contactsC2 (sizesOf l) r) := by
    unfold ref11_contacts contactsC2
    rw [h1]
    by_cases h16 : 256 < r.Contacts.length
    · have : (r.Contacts.length : Int) > 256 := by omega
      simp [h16, this]
    · have : ¬ ((r.Contacts.length : Int) > 256) := by omega
      simp [h16, this]
  have e2 : ref11_coils n (sizesOf l) r = some (coilsC2 (sizesOf l) r) := by
    unfold ref11_coils coilsC2
    rw [h2]
    by_cases h16 : 16 < r.Coils.length
    · have : (r.Coils.length : Int) > 16 := by omega
      simp [h16, this]
    · have : ¬ ((r.Coils.length : Int) > 16) := by omega
      simp [h16, this]
  have e3 : ∀ v, ref11_rung_J2 n r v = some (if v ≠ 0 then v else jumpC r) := by
    intro v
    unfold ref11_rung_J2 jumpC
    rw [ref09_IsName_eq n _ hn]
    by_cases hv : v = 0
    · by_cases hj : r.Jump = (⟨#[]⟩ : Str)
      · simp [hv, hj]
      · by_cases hs : nameS r.Jump = true
        · simp [hv, hj, hs]
        · simp [hv, hj, hs]
    · simp [hv]
  unfold ref11_rung_J1 restC
  rw [show (⟨l.I, l.Q, l.M, 0⟩ : ApiSize) = sizesOf l from rfl, e1]
  simp only [Option.bind_some, e2, e3]
  by_cases hz : contactsC2 (sizesOf l) r = 0
  · simp [hz]
  · simp [hz]

theorem ref_L3 (n : Nat) (l : ApiLadder) (r : ApiRung) (j : Nat) (hj : j ≤ l.Rungs.length) (hb : n ≤ 1000000000) (hl : l.Rungs.length < n) (v : Int) (hv : ref11_rung_J1 n l r = some v) : ∀ (k i : Nat), i ≤ j → j - i < k →
    ref11_rung_L3 n l j r k i = some (if (((l.Rungs.take j).drop i).any fun x => decide (x.Label = r.Label)) = true then 9 else v)
  | 0, i, h1, h2 => by omega
  | k + 1, i, h1, h2 => by
    unfold ref11_rung_L3
    by_cases hi : i < j
    · obtain ⟨c, hc⟩ := get_ex (l := l.Rungs) (i := i) (by omega)
      have hc2 : (l.Rungs.take j)[i]? = some c := by rw [List.getElem?_take, if_pos hi]; exact hc
      have hlt : (i : Int) < (j : Int) := by omega
      have hw := wrapN (i := i) (by omega)
      rw [drop_cons hc2]
      have ih := ref_L3 n l r j hj hb hl v hv k (i + 1) (by omega) (by omega)
      simp only [atI_nat, hc, hlt, decide_true, if_true, Option.bind_some, hw, ih, List.any_cons]
      by_cases h : c.Label = r.Label
      · simp [h]
      · simp [h]
    · have hge : ¬ (i : Int) < (j : Int) := by omega
      have : (l.Rungs.take j).drop i = [] := List.drop_eq_nil_of_le (by rw [List.length_take]; omega)
      simp [hge, this, hv]

theorem ref11_rung_eq (n : Nat) (l : ApiLadder) (i : Nat) (r : ApiRung) (hr : l.Rungs[i]? = some r) (hn : 17 < n) (hb : n ≤ 1000000000) (hl : l.Rungs.length < n) (hf : fewR n r) : ref11_rung n l i = some (rungC (sizesOf l) (l.Rungs.take i) r) := by
  have hi := get_lt hr
  have h3 := ref_L3 n l r i (by omega) hb hl _ (ref_rest n l r hn hb hf) n 0 (Nat.zero_le _) (by omega)
  simp only [Int.natCast_zero, List.drop_zero] at h3
  unfold ref11_rung rungC
  simp only [atI_nat, hr, Option.bind_some, ref09_IsName_eq n _ hn, ref_rest n l r hn hb hf, h3]
  by_cases h0 : r.Label = (⟨#[]⟩ : Str)
  · simp [h0]
  · by_cases h1 : nameS r.Label = true
    · simp [h0, h1]
    · simp [h0, h1]

theorem ref_behind (l : ApiLadder) (lb : Str) (hl : l.Rungs.length ≤ 1000000000) : ∀ (k i : Nat), i ≤ l.Rungs.length → l.Rungs.length - i < k → ref10_Behind_L1 l lb k i = some ((l.Rungs.drop i).any fun x => decide (x.Label = lb))
  | 0, i, h1, h2 => by omega
  | k + 1, i, h1, h2 => by
    unfold ref10_Behind_L1
    by_cases hi : i < l.Rungs.length
    · obtain ⟨c, hc⟩ := get_ex hi
      have hlt : (i : Int) < l.Rungs.length := by omega
      have hw := wrapN (i := i) (by omega)
      rw [drop_cons hc]
      have ih := ref_behind l lb hl k (i + 1) (by omega) (by omega)
      simp only [atI_nat, hc, hlt, decide_true, if_true, Option.bind_some, hw, ih, List.any_cons]
      by_cases h : c.Label = lb
      · simp [h]
      · simp [h]
    · have hge : ¬ (i : Int) < l.Rungs.length := by omega
      simp [hge, List.drop_eq_nil_of_le (show l.Rungs.length ≤ i by omega)]

theorem ref_check_L2 (n : Nat) (l : ApiLadder) (hl : l.Rungs.length < n) (hb : n ≤ 1000000000) : ∀ (k i : Nat), i ≤ l.Rungs.length → l.Rungs.length - i < k → ref11_Check_L2 n l k i = some (jumpsC (l.Rungs.drop i) i)
  | 0, i, h1, h2 => by omega
  | k + 1, i, h1, h2 => by
    unfold ref11_Check_L2
    by_cases hi : i < l.Rungs.length
    · obtain ⟨r, hr⟩ := get_ex hi
      have hlt : (i : Int) < l.Rungs.length := by omega
      have hw := wrapN (i := i) (by omega)
      rw [drop_cons hr]
      have ih := ref_check_L2 n l hl hb k (i + 1) (by omega) (by omega)
      have hbh := ref_behind l r.Jump (by omega) n (i + 1) (by omega) (by omega)
      simp only [atI_nat, hr, hlt, decide_true, if_true, Option.bind_some, hw, ih, jumpsC, ref10_Behind, hbh]
      by_cases hj : r.Jump = (⟨#[]⟩ : Str)
      · simp [hj]
      · by_cases ha : ((l.Rungs.drop (i + 1)).any fun x => decide (x.Label = r.Jump)) = true
        · simp only [hj, ha, decide_false, Bool.not_false, Bool.not_true, Bool.false_eq_true, if_true, if_false, ne_eq, not_false_iff, reduceCtorEq, and_false]
        · have ha' : ((l.Rungs.drop (i + 1)).any fun x => decide (x.Label = r.Jump)) = false := by simpa using ha
          simp only [hj, ha', decide_false, Bool.not_false, Bool.not_true, Bool.false_eq_true, if_true, if_false, ne_eq, not_false_iff, and_self]
    · have hge : ¬ (i : Int) < l.Rungs.length := by omega
      have hie : i = l.Rungs.length := by omega
      simp [hge, List.drop_eq_nil_of_le (show l.Rungs.length ≤ i by omega), jumpsC, hie]

theorem ref_check_L3 (n : Nat) (l : ApiLadder) (hn : 17 < n) (hl : l.Rungs.length < n) (hb : n ≤ 1000000000) (hf : ∀ r ∈ l.Rungs, fewR n r) : ∀ (k i : Nat), i ≤ l.Rungs.length → l.Rungs.length - i < k →
    ref11_Check_L3 n l k i = some ((rungsC (sizesOf l) l.Rungs (l.Rungs.drop i) i).getD (jumpsC l.Rungs 0))
  | 0, i, h1, h2 => by omega
  | k + 1, i, h1, h2 => by
    unfold ref11_Check_L3
    by_cases hi : i < l.Rungs.length
    · obtain ⟨r, hr⟩ := get_ex hi
      have hlt : (i : Int) < l.Rungs.length := by omega
      have hw := wrapN (i := i) (by omega)
      rw [drop_cons hr]
      have ih := ref_check_L3 n l hn hl hb hf k (i + 1) (by omega) (by omega)
      rw [ref11_rung_eq n l i r hr hn hb hl (hf r (List.mem_of_getElem? hr))]
      simp only [hlt, decide_true, if_true, Option.bind_some, hw, ih, rungsC]
      by_cases hz : rungC (sizesOf l) (l.Rungs.take i) r = 0
      · simp [hz]
      · simp [hz]
    · have hge : ¬ (i : Int) < l.Rungs.length := by omega
      have := ref_check_L2 n l hl hb n 0 (Nat.zero_le _) (by omega)
      simp only [Int.natCast_zero, List.drop_zero] at this
      simp [hge, List.drop_eq_nil_of_le (show l.Rungs.length ≤ i by omega), rungsC, ref11_Check_J1, this]

theorem ref11_Check_eq (n : Nat) (l : ApiLadder) (hn : 17 < n) (hl : l.Rungs.length < n) (hb : n ≤ 1000000000) (hf : ∀ r ∈ l.Rungs, fewR n r) : ref11_Check n l = some (checkS l) := by
  have h3 := ref_check_L3 n l hn hl hb hf n 0 (Nat.zero_le _) (by omega)
  simp only [Int.natCast_zero, List.drop_zero] at h3
  unfold ref11_Check checkS
  rw [h3]
  by_cases hs : sizeOk (sizesOf l)
  · obtain ⟨⟨a1, a2⟩, ⟨a3, a4⟩, a5, a6⟩ := id hs
    simp only [sizesOf] at a1 a2 a3 a4 a5 a6
    have b1 : ¬ l.I < 0 := by omega
    have b2 : ¬ l.I > 256 := by omega
    have b3 : ¬ l.Q < 0 := by omega
    have b4 : ¬ l.Q > 256 := by omega
    have b5 : ¬ l.M < 0 := by omega
    have b6 : ¬ l.M > 256 := by omega
    simp only [b1, b2, b3, b4, b5, b6, decide_false, Bool.false_eq_true, if_false, hs, not_true]
    by_cases h64 : 64 < l.Rungs.length
    · have : (l.Rungs.length : Int) > 64 := by omega
      simp [h64, this]
    · have : ¬ ((l.Rungs.length : Int) > 64) := by omega
      simp [h64, this]
  · rw [if_pos hs]
    unfold sizeOk at hs
    simp only [sizesOf] at hs
    repeat' split
    all_goals first | rfl | skip
    all_goals exfalso; simp at *; omega

end Go.G

namespace Go.G
open Go.Av

/-- The bases from an index on. -/
def basesL : List ApiRung → Int → List Int
  | [], _ => []
  | r :: rs, b => (b + edges r.Contacts) :: basesL rs (b + edges r.Contacts)
def basesS (l : ApiLadder) : List Int := 0 :: basesL l.Rungs 0

theorem basesL_length : ∀ (rs : List ApiRung) (b : Int), (basesL rs b).length = rs.length
  | [], _ => rfl
  | r :: rs, b => by simp [basesL, basesL_length rs]

def sumE (rs : List ApiRung) : Nat := (rs.map fun r => edges r.Contacts).sum

section
variable (n : Nat) (l : ApiLadder) (hl : l.Rungs.length < n) (hn : 1000 < n) (hb : n ≤ 100000000) (hf : ∀ r ∈ l.Rungs, r.Contacts.length ≤ 1000)
include hl hn hb hf

theorem bases_loop : ∀ (k i : Nat) (acc : List Int) (b : Int), i ≤ l.Rungs.length → acc.length = i → 0 ≤ b → b ≤ 1000 * i → l.Rungs.length - i < k →
    pathmodel_SlotBases_L1 n l k i (acc ++ [b]) = some (acc ++ b :: basesL (l.Rungs.drop i) b) ∧ ref20_SlotBases_L1 n l k (acc ++ [b]) i = some (acc ++ b :: basesL (l.Rungs.drop i) b)
  | 0, i, acc, b, h1, h2, h3, h4, h5 => by omega
  | k + 1, i, acc, b, h1, h2, h3, h4, h5 => by
    unfold pathmodel_SlotBases_L1 ref20_SlotBases_L1
    by_cases hi : i < l.Rungs.length
    · obtain ⟨r, hr⟩ := get_ex hi
      have hlt : (i : Int) < l.Rungs.length := by omega
      have hw := wrapN (i := i) (by omega)
      have hrl := hf r (List.mem_of_getElem? hr)
      have hel := edges_le r.Contacts
      have hacc : (acc ++ [b])[i]? = some b := by rw [← h2]; simp
      rw [drop_cons hr]
      have hwb : IntKind.i64.wrap (b + (edges r.Contacts : Int)) = b + edges r.Contacts := wrapI (by omega) (by omega)
      have ih := bases_loop k (i + 1) (acc ++ [b]) (b + edges r.Contacts) (by omega) (by simp [h2]) (by omega) (by omega) (by omega)
      have hln : (acc ++ [b]).length + [b + (edges r.Contacts : Int)].length ≤ 1000000000 := by simp; omega
      simp only [atI_nat, hacc, hr, hlt, decide_true, if_true, Option.bind_some, hw, rungeval_EdgeCount_eq n r (by omega) (by omega), ref16_EdgeCount_eq n r (by omega) (by omega), hwb]
      refine ⟨(if_pos hln).trans (ih.1.trans ?_), (if_pos hln).trans (ih.2.trans ?_)⟩ <;> simp [basesL]
    · have hge : ¬ (i : Int) < l.Rungs.length := by omega
      simp [hge, List.drop_eq_nil_of_le (show l.Rungs.length ≤ i by omega), basesL]

theorem SlotBases_eq : pathmodel_SlotBases n l = some (basesS l) := by
  have := (bases_loop n l hl hn hb hf n 0 [] 0 (Nat.zero_le _) rfl (by omega) (by omega) (by omega)).1
  unfold pathmodel_SlotBases basesS
  rw [wrapI (by omega) (by omega)]
  have hg : 0 ≤ 1 ∧ 1 ≤ (l.Rungs.length : Int) + 1 ∧ (l.Rungs.length : Int) + 1 ≤ 1000000000 := by omega
  rw [if_pos hg]
  simpa using this

theorem ref20_SlotBases_eq : ref20_SlotBases n l = some (basesS l) := by
  have := (bases_loop n l hl hn hb hf n 0 [] 0 (Nat.zero_le _) rfl (by omega) (by omega) (by omega)).2
  unfold ref20_SlotBases basesS
  simpa using this
end

theorem Fits_eq (n : Nat) (s : ApiSize) (st : ApiState) (hn : 10 < n) (h0 : 0 ≤ s.I ∧ s.I ≤ 256) (h1 : s.Q ≤ 256) (h2 : s.M ≤ 256) (h3 : s.E ≤ 16384) :
    state_Fits n s st = some (decide ((st.Q.length : Int) = s.Q ∧ (st.M.length : Int) = s.M ∧ (st.E.length : Int) = s.E)) := by
  obtain ⟨m, rfl⟩ : ∃ m, n = m + 4 := ⟨n - 4, by omega⟩
  unfold state_Fits state_images
  simp only [Option.bind_some]
  have w1 : IntKind.i64.wrap 1 = 1 := by decide
  have w2 : IntKind.i64.wrap 2 = 2 := by decide
  have w3 : IntKind.i64.wrap 3 = 3 := by decide
  unfold state_Fits_L1
  by_cases e1 : (st.Q.length : Int) = s.Q
  · unfold state_Fits_L1
    by_cases e2 : (st.M.length : Int) = s.M
    · unfold state_Fits_L1
      by_cases e3 : (st.E.length : Int) = s.E
      · unfold state_Fits_L1
        have hc : addr_CheckSize (m + 4) s = some 0 := by
          unfold addr_CheckSize
          simp only [within_eq, Option.bind_some]
          have q1 : 0 ≤ s.E ∧ s.E ≤ 16384 := by omega
          have q2 : 0 ≤ s.Q ∧ s.Q ≤ 256 := by omega
          have q3 : 0 ≤ s.M ∧ s.M ≤ 256 := by omega
          simp [h0, q1, q2, q3]
        simp [w1, w2, w3, e1, e2, e3, hc]
      · simp [w1, w2, w3, e1, e2, e3]
    · simp [w1, w2, w3, e1, e2]
  · simp [w1, w2, w3, e1]

end Go.G

namespace Go.G
open Go.Av

def fitS (l : ApiLadder) (ins : List Bool) (st : ApiState) : Prop := (ins.length : Int) = l.I ∧ (st.Q.length : Int) = l.Q ∧ (st.M.length : Int) = l.M

theorem part_zero {s : ApiSize} {k : Int} {a : ApiAddr} (h : partS s k a = 0) : (0 ≤ k ∧ k < 4) ∧ (0 ≤ a.Space ∧ a.Space ≤ 2) ∧ 0 ≤ a.N ∧ a.N < widthS s a.Space := by
  unfold partS addrS at h
  split at h
  · omega
  · split at h
    · omega
    · split at h
      · omega
      · omega

theorem read_ok {l : ApiLadder} {ins : List Bool} {st : ApiState} (hf : fitS l ins st) {k : Int} {a : ApiAddr} (h : partS (sizesOf l) k a = 0) : (readS ins st a).2 = 0 := by
  obtain ⟨_, ⟨h1, h2⟩, h3, h4⟩ := part_zero h
  obtain ⟨f1, f2, f3⟩ := hf
  unfold readS
  unfold widthS sizesOf at h4
  have key : ∀ (m : List Bool) (i : Int), 0 ≤ i → i < m.length → (getS m i).2 = 0 := by
    intro m i h0 h1
    obtain ⟨x, _, hx⟩ := atI_get h0 h1
    unfold getS; rw [hx]
  by_cases e0 : a.Space = 0
  · rw [if_pos e0] at h4 ⊢; exact key _ _ h3 (by rw [f1]; exact h4)
  · rw [if_neg e0] at h4 ⊢
    by_cases e1 : a.Space = 1
    · rw [if_pos e1] at h4 ⊢; exact key _ _ h3 (by rw [f2]; exact h4)
    · rw [if_neg e1] at h4 ⊢
      by_cases e2 : a.Space = 2
      · rw [if_pos e2] at h4 ⊢; exact key _ _ h3 (by rw [f3]; exact h4)
      · omega

theorem contacts_ok {l : ApiLadder} {ins : List Bool} {st : ApiState} (hf : fitS l ins st) : ∀ (cs : List ApiContact) (slot : Int) (e acc : List Bool), contactsC (sizesOf l) cs = 0 → 0 ≤ slot → slot + edges cs ≤ e.length →
    (contactsS ins st cs slot e acc).2.2 = 0 ∧ (contactsS ins st cs slot e acc).2.1.Q = st.Q ∧ (contactsS ins st cs slot e acc).2.1.M = st.M ∧ (contactsS ins st cs slot e acc).2.1.E.length = e.length
  | [], slot, e, acc, _, _, _ => ⟨rfl, rfl, rfl, rfl⟩
  | c :: cs, slot, e, acc, h, h0, h1 => by
    unfold contactsC at h
    by_cases hp : partS (sizesOf l) c.Kind c.A = 0
    · rw [if_neg (by simpa using hp)] at h
      have hc : contactsC (sizesOf l) cs = 0 := by
        split at h
        · omega
        · split at h
          · omega
          · exact h
      obtain ⟨hk, _⟩ := part_zero hp
      unfold contactsS
      rw [if_neg (by omega), if_neg (by rw [read_ok hf hp]; simp)]
      unfold edges at h1
      by_cases hs : seesS c = true
      · rw [if_pos hs, if_neg (by
          rw [if_pos hs] at h1
          have : (0 : Int) ≤ (edges cs : Int) := by omega
          push_cast at h1; omega)]
        have := contacts_ok hf cs (slot + 1) (e.set slot.toNat (readS ins st c.A).1) (acc ++ [condS c.Kind (readS ins st c.A).1 (e[slot.toNat]?.getD false)]) hc (by omega) (by
          rw [if_pos hs] at h1; simp; push_cast at h1; omega)
        simpa using this
      · rw [if_neg hs]
        rw [if_neg hs] at h1
        exact contacts_ok hf cs slot e _ hc h0 (by push_cast at h1; omega)
    · rw [if_pos (by simpa using hp)] at h; exact absurd h hp

theorem write_ok {l : ApiLadder} {ins : List Bool} {st : ApiState} (hf : fitS l ins st) {k : Int} {a : ApiAddr} (h : partS (sizesOf l) k a = 0) (h0 : a.Space ≠ 0) (v : Bool) :
    (writeS st a v).2 = 0 ∧ fitS l ins (writeS st a v).1 ∧ (writeS st a v).1.E = st.E := by
  obtain ⟨_, ⟨h1, h2⟩, h3, h4⟩ := part_zero h
  obtain ⟨f1, f2, f3⟩ := hf
  unfold writeS
  unfold widthS sizesOf at h4
  rw [if_neg h0] at h4
  by_cases e1 : a.Space = 1
  · rw [if_pos e1] at h4 ⊢
    rw [if_pos ⟨h3, by rw [f2]; exact h4⟩]
    exact ⟨rfl, ⟨f1, by simpa using f2, f3⟩, rfl⟩
  · rw [if_neg e1] at h4 ⊢
    have e2 : a.Space = 2 := by omega
    rw [if_pos e2] at h4 ⊢
    rw [if_pos ⟨h3, by rw [f3]; exact h4⟩]
    exact ⟨rfl, ⟨f1, f2, by simpa using f3⟩, rfl⟩

theorem coils_ok {l : ApiLadder} {ins : List Bool} (on : Bool) : ∀ (cs : List ApiCoil) (st : ApiState), fitS l ins st → coilsC (sizesOf l) cs = 0 →
    (coilsS cs st on).2 = 0 ∧ fitS l ins (coilsS cs st on).1 ∧ (coilsS cs st on).1.E = st.E
  | [], st, hf, _ => ⟨rfl, hf, rfl⟩
  | c :: cs, st, hf, h => by
    unfold coilsC at h
    by_cases hp : partS (sizesOf l) c.Kind c.A = 0
    · rw [if_neg (by simpa using hp)] at h
      by_cases h0 : c.A.Space = 0
      · rw [if_pos h0] at h; omega
      · rw [if_neg h0] at h
        obtain ⟨hk, _⟩ := part_zero hp
        unfold coilsS
        rw [if_neg (by omega)]
        simp only
        generalize (if c.Kind = 0 then on else if c.Kind = 1 then !on else if c.Kind = 2 then true else false) = v
        generalize (if c.Kind = 0 ∨ c.Kind = 1 then true else on) = w
        obtain ⟨g1, g2, g3⟩ := write_ok hf hp h0 v
        rw [if_neg (by rw [g1]; simp)]
        cases w with
        | true =>
          simp only [if_true]
          obtain ⟨q1, q2, q3⟩ := coils_ok on cs _ g2 h
          exact ⟨q1, q2, q3.trans g3⟩
        | false =>
          simp only [Bool.false_eq_true, if_false]
          exact coils_ok on cs st hf h
    · rw [if_pos (by simpa using hp)] at h; exact absurd h hp

noncomputable def scanS (r : ApiRung) (ins : List Bool) (st : ApiState) (slot : Int) : ApiState × Bool × Int :=
  let q := contactsS ins st r.Contacts slot st.E []
  if q.2.2 ≠ 0 then (noState, false, q.2.2)
  else
    let w := coilsS r.Coils q.2.1 (condP r q.1).1
    if w.2 ≠ 0 then (noState, false, w.2) else (w.1, (condP r q.1).1, 0)

theorem scan_ok {l : ApiLadder} {ins : List Bool} {st : ApiState} (hf : fitS l ins st) (r : ApiRung) {b : List ApiRung} (hr : rungC (sizesOf l) b r = 0) (slot : Int) (h0 : 0 ≤ slot) (h1 : slot + edges r.Contacts ≤ st.E.length) :
    (scanS r ins st slot).2.2 = 0 ∧ fitS l ins (scanS r ins st slot).1 ∧ (scanS r ins st slot).1.E.length = st.E.length := by
  have hrest : restC (sizesOf l) r = 0 := by
    unfold rungC at hr
    split at hr
    · exact hr
    · split at hr
      · omega
      · split at hr
        · omega
        · exact hr
  unfold restC at hrest
  have hcc : contactsC (sizesOf l) r.Contacts = 0 ∧ coilsC (sizesOf l) r.Coils = 0 := by
    by_cases e1 : contactsC2 (sizesOf l) r = 0
    · rw [if_neg (by simpa using e1)] at hrest
      by_cases e2 : coilsC2 (sizesOf l) r = 0
      · unfold contactsC2 at e1
        unfold coilsC2 at e2
        split at e1
        · omega
        · split at e2
          · omega
          · exact ⟨e1, e2⟩
      · rw [if_pos (by simpa using e2)] at hrest; exact absurd hrest e2
    · rw [if_pos (by simpa using e1)] at hrest; exact absurd hrest e1
  obtain ⟨c1, c2, c3, c4⟩ := contacts_ok hf r.Contacts slot st.E [] hcc.1 h0 h1
  have hf2 : fitS l ins (contactsS ins st r.Contacts slot st.E []).2.1 := ⟨hf.1, by rw [c2]; exact hf.2.1, by rw [c3]; exact hf.2.2⟩
  obtain ⟨w1, w2, w3⟩ := coils_ok (condP r (contactsS ins st r.Contacts slot st.E []).1).1 r.Coils _ hf2 hcc.2
  unfold scanS
  simp only [c1, ne_eq, not_true, if_false, w1]
  exact ⟨trivial, w2, by rw [w3, c4]⟩

section
variable (r : ApiRung) (ins : List Bool) (st : ApiState) (h60 : r.Contacts.length ≤ 1000) (hc : r.Coils.length ≤ 1500000) (hs : small st) (slot : Int) (h0 : -4611686018427387904 ≤ slot) (h1 : slot ≤ 4611686018427387904)
include h60 hc hs h0 h1
theorem rungeval_Scan_eq : rungeval_Scan 2000000 r ins st slot = some (scanS r ins st slot) := by
  have hsm := contactsS_small ins st hs r.Contacts slot st.E [] hs.2.2
  unfold rungeval_Scan scanS
  rw [rungeval_Contacts_eq _ _ _ _ _ (by omega) hs (by omega) h1]
  generalize contactsS ins st r.Contacts slot st.E [] = q at hsm
  obtain ⟨q1, q2, q3⟩ := q
  simp only at hsm
  simp only [Option.bind_some]
  by_cases hq : q3 = 0
  · subst hq
    have hl := hsm.2.1 rfl
    simp only [List.length_nil, Nat.zero_add] at hl
    rw [rungeval_Conducts_eq _ _ _ (by omega) (by omega)]
    have hcp : (condP r q1).2 = 0 := by unfold condP; rw [if_pos hl]
    generalize condP r q1 = cp at hcp
    obtain ⟨c1, c2⟩ := cp
    simp only at hcp
    subst hcp
    simp only [bne_self_eq_false, Bool.false_eq_true, if_false, ne_eq, not_true, Option.bind_some]
    rw [rungeval_Coils_eq _ _ _ _ (by omega) hsm.1 (by omega)]
    generalize coilsS r.Coils q2 c1 = w
    obtain ⟨w1, w2⟩ := w
    by_cases hw : w2 = 0 <;> simp [hw, noState]
  · have hb : (q3 != 0) = true := by simpa using hq
    simp [hb, hq, noState]
theorem ref16_Scan_eq : ref16_Scan 2000000 r ins st slot = some (scanS r ins st slot) := by
  have hsm := contactsS_small ins st hs r.Contacts slot st.E [] hs.2.2
  unfold ref16_Scan scanS
  rw [ref16_Contacts_eq _ _ _ _ _ (by omega) hs (by omega) h0 h1]
  generalize contactsS ins st r.Contacts slot st.E [] = q at hsm
  obtain ⟨q1, q2, q3⟩ := q
  simp only at hsm
  simp only [Option.bind_some]
  by_cases hq : q3 = 0
  · subst hq
    have hl := hsm.2.1 rfl
    simp only [List.length_nil, Nat.zero_add] at hl
    rw [ref16_Conducts_eq _ _ _ (by omega) (by omega)]
    generalize condP r q1 = cp
    obtain ⟨c1, c2⟩ := cp
    simp only [bne_self_eq_false, Bool.false_eq_true, if_false, ne_eq, not_true, Option.bind_some]
    rw [ref16_Coils_eq _ _ _ _ (by omega) hsm.1 (by omega)]
    generalize coilsS r.Coils q2 c1 = w
    obtain ⟨w1, w2⟩ := w
    by_cases hw : w2 = 0 <;> simp [hw, noState]
  · have hb : (q3 != 0) = true := by simpa using hq
    simp [hb, hq, noState]
end

end Go.G

namespace Go.G
open Go.Av

def noStr : Str := ⟨#[]⟩
noncomputable def ladS (ins : List Bool) (bases : List Int) : List ApiRung → Nat → Str → ApiState → List Bool → ApiState × List Bool
  | [], _, _, st, did => (st, did)
  | r :: rs, i, skip, st, did =>
    if skip ≠ noStr ∧ r.Label ≠ skip then ladS ins bases rs (i + 1) skip st did
    else
      ladS ins bases rs (i + 1) (if (scanS r ins st (bases[i]?.getD 0)).2.1 = true then r.Jump else noStr) (scanS r ins st (bases[i]?.getD 0)).1 (did.set i true)

structure okL (l : ApiLadder) : Prop where
  len : l.Rungs.length ≤ 70
  parts : ∀ r ∈ l.Rungs, r.Contacts.length ≤ 40 ∧ r.Coils.length ≤ 1500000

theorem okL.few {l : ApiLadder} (h : okL l) : ∀ r ∈ l.Rungs, fewR 2000000 r := fun r hr => ⟨by have := (h.parts r hr).2; omega, by have := (h.parts r hr).1; omega⟩

theorem sumE_le : ∀ (rs : List ApiRung), (∀ r ∈ rs, r.Contacts.length ≤ 40) → sumE rs ≤ 40 * rs.length
  | [], _ => by simp [sumE]
  | r :: rs, h => by
    have := sumE_le rs (fun q hq => h q (by simp [hq]))
    have h1 := h r (by simp)
    have h2 := edges_le r.Contacts
    simp only [sumE, List.map_cons, List.sum_cons, List.length_cons] at this ⊢
    omega

theorem base_get : ∀ (rs : List ApiRung) (b : Int) (j : Nat) (r : ApiRung), rs[j]? = some r → ∃ x, (b :: basesL rs b)[j]? = some x ∧ b ≤ x ∧ x + edges r.Contacts ≤ b + sumE rs
  | [], b, j, r, h => by simp at h
  | q :: rs, b, 0, r, h => by
    simp at h; subst h
    refine ⟨b, rfl, by omega, ?_⟩
    simp only [sumE, List.map_cons, List.sum_cons]; push_cast; omega
  | q :: rs, b, j + 1, r, h => by
    obtain ⟨x, h1, h2, h3⟩ := base_get rs (b + edges q.Contacts) j r (by simpa using h)
    refine ⟨x, by simpa [basesL] using h1, by omega, ?_⟩
    simp only [sumE, List.map_cons, List.sum_cons] at h3 ⊢; push_cast at h3 ⊢; omega

theorem base_last : ∀ (rs : List ApiRung) (b : Int), (b :: basesL rs b)[rs.length]? = some (b + sumE rs)
  | [], b => by simp [sumE]
  | r :: rs, b => by
    have := base_last rs (b + edges r.Contacts)
    simp only [basesL, List.length_cons, List.getElem?_cons_succ, sumE, List.map_cons, List.sum_cons] at this ⊢
    rw [this]; push_cast; congr 1; omega

/-! ### what Check says -/
theorem rungsC_none {s : ApiSize} {l : List ApiRung} : ∀ (rs : List ApiRung) (i : Nat), rungsC s l rs i = none → ∀ (j : Nat) (r : ApiRung), rs[j]? = some r → rungC s (l.take (i + j)) r = 0
  | [], i, _, j, r, h => by simp at h
  | q :: rs, i, hn, j, r, h => by
    unfold rungsC at hn
    split at hn
    · cases hn
    · rename_i hq
      cases j with
      | zero => simp at h; subst h; simpa using hq
      | succ j =>
        have := rungsC_none rs (i + 1) hn j r (by simpa using h)
        rw [show i + (j + 1) = i + 1 + j by omega]; exact this

theorem rungsC_some {s : ApiSize} {l : List ApiRung} : ∀ (rs : List ApiRung) (i : Nat) (p : Int × Int), rungsC s l rs i = some p → p.2 ≠ 0
  | [], i, p, h => by simp [rungsC] at h
  | q :: rs, i, p, h => by
    unfold rungsC at h
    split at h
    · rename_i hq; cases h; exact hq
    · exact rungsC_some rs (i + 1) p h

theorem jumpsC_zero : ∀ (rs : List ApiRung) (i : Nat), (jumpsC rs i).2 = 0 → ∀ (j : Nat) (r : ApiRung), rs[j]? = some r → r.Jump ≠ noStr → ((rs.drop (j + 1)).any fun x => decide (x.Label = r.Jump)) = true
  | [], i, _, j, r, h, _ => by simp at h
  | q :: rs, i, hz, j, r, h, hj => by
    unfold jumpsC at hz
    split at hz
    · simp at hz
    · rename_i hq
      cases j with
      | zero =>
        simp at h; subst h
        cases ha : (rs.any fun x => decide (x.Label = q.Jump)) with
        | true => simpa using ha
        | false => exact absurd ⟨hj, ha⟩ hq
      | succ j =>
        have := jumpsC_zero rs (i + 1) hz j r (by simpa using h) hj
        simpa using this

theorem check_ok {l : ApiLadder} (h : (checkS l).2 = 0) : sizeOk (sizesOf l) ∧ (∀ (i : Nat) (r : ApiRung), l.Rungs[i]? = some r → rungC (sizesOf l) (l.Rungs.take i) r = 0) ∧
    (∀ (i : Nat) (r : ApiRung), l.Rungs[i]? = some r → r.Jump ≠ noStr → ((l.Rungs.drop (i + 1)).any fun x => decide (x.Label = r.Jump)) = true) := by
  unfold checkS at h
  split at h
  · simp at h
  · rename_i hs
    split at h
    · simp at h
    · cases hr : rungsC (sizesOf l) l.Rungs l.Rungs 0 with
      | some p => rw [hr] at h; exact absurd h (rungsC_some _ _ p hr)
      | none =>
        rw [hr] at h
        refine ⟨Decidable.not_not.1 hs, fun i r hi => by have := rungsC_none l.Rungs 0 hr i r hi; simpa using this, fun i r hi hj => jumpsC_zero l.Rungs 0 h i r hi hj⟩

/-! ### jumps -/
theorem skip_to (ins : List Bool) (bases : List Int) (skip : Str) (hs : skip ≠ noStr) (st : ApiState) (did : List Bool) : ∀ (rs : List ApiRung) (m i : Nat), (rs.any fun x => decide (x.Label = skip)) = true →
    ∃ d, d < rs.length ∧ idxS (fun x => decide (x.Label = skip)) rs m = ((m + d : Nat) : Int) ∧ ladS ins bases rs i skip st did = ladS ins bases (rs.drop d) (i + d) noStr st did
  | [], m, i, h => by simp at h
  | r :: rs, m, i, h => by
    by_cases hl : r.Label = skip
    · refine ⟨0, by simp, by simp [idxS, hl], ?_⟩
      simp [ladS, hl]
    · have h2 : (rs.any fun x => decide (x.Label = skip)) = true := by simpa [hl] using h
      obtain ⟨d, h3, h4, h5⟩ := skip_to ins bases skip hs st did rs (m + 1) (i + 1) h2
      refine ⟨d + 1, by simp; omega, ?_, ?_⟩
      · simp only [idxS, hl, decide_false, Bool.false_eq_true, if_false, h4]; push_cast; omega
      · have e : ladS ins bases (r :: rs) i skip st did = ladS ins bases rs (i + 1) skip st did := by
          conv => lhs; unfold ladS
          rw [if_pos ⟨hs, hl⟩]
        rw [e, h5, List.drop_succ_cons, show i + (d + 1) = i + 1 + d by omega]

theorem idx89 (n : Nat) (s : List ApiRung) (l : ApiLadder) (at1 : Nat) (q : ApiRung) (hq : l.Rungs[at1]? = some q) (hl : s.length ≤ 1000000000) : ∀ (k i : Nat), i ≤ s.length → s.length - i < k →
    slices_IndexFunc_api_Rung_c89_L1 n s l at1 k i = some (idxS (fun x => decide (x.Label = q.Jump)) (s.drop i) i)
  | 0, i, h1, h2 => by omega
  | k + 1, i, h1, h2 => by
    unfold slices_IndexFunc_api_Rung_c89_L1
    by_cases hi : i < s.length
    · obtain ⟨c, hc⟩ := get_ex hi
      have hlt : (i : Int) < s.length := by omega
      have hw := wrapN (i := i) (by omega)
      rw [drop_cons hc]
      have ih := idx89 n s l at1 q hq hl k (i + 1) (by omega) (by omega)
      simp only [atI_nat, hc, hlt, decide_true, if_true, Option.bind_some, hw, pathmodel_behind_1, hq, idxS]
      by_cases h : c.Label = q.Jump
      · simp [h]
      · simpa [h] using ih
    · have hge : ¬ (i : Int) < s.length := by omega
      simp [hge, List.drop_eq_nil_of_le (show s.length ≤ i by omega), idxS]

theorem behind_eq (l : ApiLadder) (i d : Nat) (q : ApiRung) (hq : l.Rungs[i]? = some q) (hl : l.Rungs.length ≤ 1000000) (hi : idxS (fun x => decide (x.Label = q.Jump)) (l.Rungs.drop (i + 1)) 0 = (d : Int)) (hd : d ≤ 1000000) :
    pathmodel_behind 2000000 l i = some ((i + 1 + d : Nat) : Int) := by
  have hlt := get_lt hq
  have hw := wrapN (i := i) (by omega)
  have h9 := idx89 2000000 (l.Rungs.drop (i + 1)) l i q hq (by rw [List.length_drop]; omega) 2000000 0 (Nat.zero_le _) (by rw [List.length_drop]; omega)
  simp only [Int.natCast_zero, List.drop_zero] at h9
  generalize (2000000 : Nat) = N at h9 ⊢
  unfold pathmodel_behind slices_IndexFunc_api_Rung_c89
  rw [hw, if_pos (by omega)]
  simp only [Option.bind_some, Int.toNat_natCast, h9, hi]
  rw [wrapI (by omega) (by omega)]
  congr 1

end Go.G

namespace Go.G
open Go.Av

structure Good (l : ApiLadder) (ins : List Bool) (st : ApiState) (did : List Bool) : Prop where
  fit : fitS l ins st
  e : st.E.length = sumE l.Rungs
  did : did.length = l.Rungs.length

section
variable (l : ApiLadder) (ins : List Bool) (hok : okL l) (hck : (checkS l).2 = 0)
include hok hck

theorem sum_small : sumE l.Rungs ≤ 2800 := by
  have := sumE_le l.Rungs (fun r hr => (hok.parts r hr).1)
  have := hok.len
  omega

theorem good_small {st : ApiState} {did : List Bool} (h : Good l ins st did) : small st := by
  obtain ⟨⟨h1, h2⟩, ⟨h3, h4⟩, h5, h6⟩ := (check_ok hck).1
  simp only [sizesOf] at h1 h2 h3 h4 h5 h6
  have := h.fit.2.1
  have := h.fit.2.2
  have := h.e
  have := sum_small l hok hck
  exact ⟨by omega, by omega, by omega⟩

/-- One rung. -/
theorem step_ok {st : ApiState} {did : List Bool} (h : Good l ins st did) {i : Nat} {r : ApiRung} (hr : l.Rungs[i]? = some r) :
    ∃ b, (basesS l)[i]? = some b ∧ rungeval_Scan 2000000 r ins st b = some (scanS r ins st b) ∧ ref16_Scan 2000000 r ins st b = some (scanS r ins st b) ∧ (scanS r ins st b).2.2 = 0 ∧ Good l ins (scanS r ins st b).1 (did.set i true) := by
  obtain ⟨b, h1, h2, h3⟩ := base_get l.Rungs 0 i r hr
  have hsum := sum_small l hok hck
  have hp := hok.parts r (List.mem_of_getElem? hr)
  have hsm := good_small l ins hok hck h
  obtain ⟨q1, q2, q3⟩ := scan_ok h.fit r ((check_ok hck).2.1 i r hr) b h2 (by rw [h.e]; omega)
  exact ⟨b, h1, rungeval_Scan_eq r ins st (by omega) (by omega) hsm b (by omega) (by omega), ref16_Scan_eq r ins st (by omega) (by omega) hsm b (by omega) (by omega), q1, q2, q3.trans h.e, by simpa using h.did⟩

theorem ref_scan_loop : ∀ (k i : Nat) (st : ApiState) (did : List Bool) (skip : Str), Good l ins st did → i ≤ l.Rungs.length → l.Rungs.length - i < k →
    ref20_Scan_L1 2000000 l ins (basesS l) k i st.Q st.M st.E did skip = some ((ladS ins (basesS l) (l.Rungs.drop i) i skip st did).1, (ladS ins (basesS l) (l.Rungs.drop i) i skip st did).2, 0)
  | 0, i, st, did, skip, h, h1, h2 => by omega
  | k + 1, i, st, did, skip, h, h1, h2 => by
    have hlen := hok.len
    unfold ref20_Scan_L1
    by_cases hi : i < l.Rungs.length
    · obtain ⟨r, hr⟩ := get_ex hi
      have hlt : (i : Int) < l.Rungs.length := by omega
      have hw := wrapN (i := i) (by omega)
      obtain ⟨x, hx⟩ := get_ex (l := did) (i := i) (by rw [h.did]; exact hi)
      obtain ⟨b, b1, b2, b3, b4, b5⟩ := step_ok l ins hok hck h hr
      rw [drop_cons hr]
      have hskip := ref_scan_loop k (i + 1) st did skip h (by omega) (by omega)
      have ihJ := ref_scan_loop k (i + 1) (scanS r ins st b).1 (did.set i true) r.Jump b5 (by omega) (by omega)
      have ih0 := ref_scan_loop k (i + 1) (scanS r ins st b).1 (did.set i true) noStr b5 (by omega) (by omega)
      have hbg : (basesS l)[i]?.getD 0 = b := by rw [b1]; rfl
      have hJ2 : ref20_Scan_J2 2000000 ins (basesS l) i st.Q st.M st.E did (ref20_Scan_L1 2000000 l ins (basesS l) k) r =
          some ((ladS ins (basesS l) (l.Rungs.drop (i + 1)) (i + 1) (if (scanS r ins st b).2.1 = true then r.Jump else noStr) (scanS r ins st b).1 (did.set i true)).1, (ladS ins (basesS l) (l.Rungs.drop (i + 1)) (i + 1) (if (scanS r ins st b).2.1 = true then r.Jump else noStr) (scanS r ins st b).1 (did.set i true)).2, 0) := by
        unfold ref20_Scan_J2
        simp only [atI_nat, hx, b1, Option.bind_some, hw, Int.toNat_natCast]
        rw [show (⟨st.Q, st.M, st.E⟩ : ApiState) = st from rfl, b3]
        simp only [Option.bind_some]
        by_cases hy : (scanS r ins st b).2.1 = true
        · simp only [hy, if_true]; exact ihJ
        · simp only [hy, if_false]; exact ih0
      simp only [atI_nat, hr, hlt, decide_true, if_true, Option.bind_some, hw, hskip, hJ2]
      conv => rhs; unfold ladS
      rw [hbg]
      by_cases hs : skip = noStr
      · have hs' : skip = (⟨#[]⟩ : Str) := hs
        simp [hs, hs', noStr]
      · have hs' : ¬ skip = (⟨#[]⟩ : Str) := hs
        by_cases hl : r.Label = skip
        · simp [hs, hs', hl]
        · simp [hs, hs', hl]
    · have hge : ¬ (i : Int) < l.Rungs.length := by omega
      simp [hge, List.drop_eq_nil_of_le (show l.Rungs.length ≤ i by omega), ladS]

theorem scan_loop : ∀ (k i : Nat) (st : ApiState) (did : List Bool) (on : Bool), Good l ins st did → i ≤ l.Rungs.length → l.Rungs.length - i < k →
    pathmodel_Scan_L1 2000000 l ins (basesS l) k st.Q st.M st.E did on i = some ((ladS ins (basesS l) (l.Rungs.drop i) i noStr st did).1, (ladS ins (basesS l) (l.Rungs.drop i) i noStr st did).2, 0)
  | 0, i, st, did, on, h, h1, h2 => by omega
  | k + 1, i, st, did, on, h, h1, h2 => by
    have hlen := hok.len
    unfold pathmodel_Scan_L1
    by_cases hi : i < l.Rungs.length
    · obtain ⟨r, hr⟩ := get_ex hi
      have hlt : (i : Int) < l.Rungs.length := by omega
      have hw := wrapN (i := i) (by omega)
      obtain ⟨x, hx⟩ := get_ex (l := did) (i := i) (by rw [h.did]; exact hi)
      obtain ⟨b, b1, b2, b3, b4, b5⟩ := step_ok l ins hok hck h hr
      have hbg : (basesS l)[i]?.getD 0 = b := by rw [b1]; rfl
      rw [drop_cons hr]
      have hlad : ladS ins (basesS l) (r :: l.Rungs.drop (i + 1)) i noStr st did = ladS ins (basesS l) (l.Rungs.drop (i + 1)) (i + 1) (if (scanS r ins st b).2.1 = true then r.Jump else noStr) (scanS r ins st b).1 (did.set i true) := by
        conv => lhs; unfold ladS
        rw [if_neg (by simp), hbg]
      rw [hlad]
      have ih0 := fun on => scan_loop k (i + 1) (scanS r ins st b).1 (did.set i true) on b5 (by omega) (by omega)
      have hb4 : ((scanS r ins st b).2.2 != 0) = false := by rw [b4]; rfl
      simp only [atI_nat, hr, hx, b1, hlt, decide_true, if_true, Option.bind_some, hw, Int.toNat_natCast]
      rw [show (⟨st.Q, st.M, st.E⟩ : ApiState) = st from rfl, b2]
      simp only [Option.bind_some, hb4, Bool.false_eq_true, if_false]
      by_cases hy : (scanS r ins st b).2.1 = true
      · simp only [hy, if_true]
        by_cases hj : r.Jump = noStr
        · have hj' : r.Jump = (⟨#[]⟩ : Str) := hj
          simp only [hj', decide_true, Bool.not_true, Bool.false_eq_true, if_false]
          have := ih0 true
          rw [show noStr = (⟨#[]⟩ : Str) from rfl] at this
          exact this
        · have hj' : ¬ r.Jump = (⟨#[]⟩ : Str) := hj
          obtain ⟨d, d1, d2, d3⟩ := skip_to ins (basesS l) r.Jump hj (scanS r ins st b).1 (did.set i true) (l.Rungs.drop (i + 1)) 0 (i + 1) ((check_ok hck).2.2 i r hr hj)
          rw [List.length_drop] at d1
          have hbh := behind_eq l i d r hr (by omega) (by rw [d2]; push_cast; omega) (by omega)
          have ihd := scan_loop k (i + 1 + d) (scanS r ins st b).1 (did.set i true) true b5 (by omega) (by omega)
          simp only [hj', decide_false, Bool.not_false, if_true, hbh, Option.bind_some]
          rw [d3, List.drop_drop]
          exact ihd
      · have hy' : (scanS r ins st b).2.1 = false := by simpa using hy
        simp only [hy', Bool.false_eq_true, if_false]
        exact ih0 false
    · have hge : ¬ (i : Int) < l.Rungs.length := by omega
      simp [hge, List.drop_eq_nil_of_le (show l.Rungs.length ≤ i by omega), ladS]
end

/-- What a scan computes. -/
noncomputable def ladScan (l : ApiLadder) (ins : List Bool) (st : ApiState) : ApiState × List Bool × Int :=
  if (checkS l).2 ≠ 0 then (noState, [], (checkS l).2)
  else if (ins.length : Int) = l.I ∧ (st.Q.length : Int) = l.Q ∧ (st.M.length : Int) = l.M ∧ st.E.length = sumE l.Rungs then
    ((ladS ins (basesS l) l.Rungs 0 noStr st (List.replicate l.Rungs.length false)).1, (ladS ins (basesS l) l.Rungs 0 noStr st (List.replicate l.Rungs.length false)).2, 0)
  else (noState, [], 2)

theorem ref20_Scan_eq (l : ApiLadder) (ins : List Bool) (st : ApiState) (hok : okL l) (hs : small st) : ref20_Scan 2000000 l ins st = some (ladScan l ins st) := by
  have hlen := hok.len
  unfold ref20_Scan ladScan
  rw [ref11_Check_eq 2000000 l (by omega) (by omega) (by omega) hok.few]
  simp only [Option.bind_some]
  by_cases hck : (checkS l).2 = 0
  · have hb : ((checkS l).2 != 0) = false := by rw [hck]; rfl
    have hbl : (basesS l)[l.Rungs.length]? = some ((sumE l.Rungs : Nat) : Int) := by have := base_last l.Rungs 0; simpa [basesS] using this
    rw [ref20_SlotBases_eq 2000000 l (by omega) (by omega) (by omega) (fun r hr => by have := (hok.parts r hr).1; omega)]
    simp only [hb, Bool.false_eq_true, if_false, hck, ne_eq, not_true, Option.bind_some, atI_nat, hbl, ref03_Clone_eq _ _ hs]
    by_cases e1 : (ins.length : Int) = l.I
    · by_cases e2 : (st.Q.length : Int) = l.Q
      · by_cases e3 : (st.M.length : Int) = l.M
        · by_cases e4 : st.E.length = sumE l.Rungs
          · have hl := ref_scan_loop l ins hok hck 2000000 0 st (List.replicate l.Rungs.length false) noStr ⟨⟨e1, e2, e3⟩, e4, by simp⟩ (Nat.zero_le _) (by omega)
            simp only [Int.natCast_zero, List.drop_zero] at hl
            have hg : 0 ≤ (l.Rungs.length : Int) ∧ (l.Rungs.length : Int) ≤ (l.Rungs.length : Int) ∧ (l.Rungs.length : Int) ≤ 1000000000 := by omega
            rw [show noStr = (⟨#[]⟩ : Str) from rfl] at hl ⊢
            simp [e1, e2, e3, e4, hl]
            omega
          · have : ¬ ((st.E.length : Int) = (sumE l.Rungs : Int)) := by omega
            simp [e1, e2, e3, e4, this, noState]
        · simp [e1, e2, e3, noState]
      · simp [e1, e2, noState]
    · simp [e1, noState]
  · have hb : ((checkS l).2 != 0) = true := by simpa using hck
    simp [hb, hck, noState]

theorem pathmodel_Scan_eq (l : ApiLadder) (ins : List Bool) (st : ApiState) (hok : okL l) (hs : small st) : pathmodel_Scan 2000000 l ins st = some (ladScan l ins st) := by
  have hlen := hok.len
  unfold pathmodel_Scan ladScan
  rw [printer_Check_eq 2000000 l (by omega) (by omega) (by omega) hok.few]
  simp only [Option.bind_some]
  by_cases hck : (checkS l).2 = 0
  · have hb : ((checkS l).2 != 0) = false := by rw [hck]; rfl
    have hbl : (basesS l)[l.Rungs.length]? = some ((sumE l.Rungs : Nat) : Int) := by have := base_last l.Rungs 0; simpa [basesS] using this
    obtain ⟨⟨a1, a2⟩, ⟨a3, a4⟩, a5, a6⟩ := (check_ok hck).1
    simp only [sizesOf] at a1 a2 a3 a4 a5 a6
    have hsum := sum_small l hok hck
    rw [SlotBases_eq 2000000 l (by omega) (by omega) (by omega) (fun r hr => by have := (hok.parts r hr).1; omega)]
    simp only [hb, Bool.false_eq_true, if_false, hck, ne_eq, not_true, Option.bind_some, atI_nat, hbl, state_Clone_eq _ _ hs]
    rw [Fits_eq 2000000 ⟨l.I, l.Q, l.M, (sumE l.Rungs : Int)⟩ st (by omega) ⟨a1, a2⟩ a4 a6 (by show ((sumE l.Rungs : Nat) : Int) ≤ 16384; omega)]
    simp only [Option.bind_some]
    by_cases e1 : (ins.length : Int) = l.I
    · by_cases e2 : (st.Q.length : Int) = l.Q
      · by_cases e3 : (st.M.length : Int) = l.M
        · by_cases e4 : st.E.length = sumE l.Rungs
          · have hl := scan_loop l ins hok hck 2000000 0 st (List.replicate l.Rungs.length false) false ⟨⟨e1, e2, e3⟩, e4, by simp⟩ (Nat.zero_le _) (by omega)
            simp only [Int.natCast_zero, List.drop_zero] at hl
            have e4' : (st.E.length : Int) = (sumE l.Rungs : Int) := by omega
            simp [e1, e2, e3, e4, e4', hl, pathmodel_rungs]
            omega
          · have : ¬ ((st.E.length : Int) = (sumE l.Rungs : Int)) := by omega
            simp [e1, e2, e3, e4, this, noState]
        · simp [e1, e2, e3, noState]
      · simp [e1, e2, noState]
    · simp [e1, noState]
  · have hb : ((checkS l).2 != 0) = true := by simpa using hck
    simp [hb, hck, noState]

end Go.G

namespace Go.G
open Go.Av

set_option maxRecDepth 100000 in
theorem alive20 : law20_alive 2000000 = some true := by decide +kernel

structure bigL (l : ApiLadder) : Prop where
  len : l.Rungs.length ≤ 1500000
  parts : ∀ r ∈ l.Rungs, r.Contacts.length ≤ 1500000 ∧ r.Coils.length ≤ 1500000

def leS (st : ApiState) (k : Nat) : Prop := st.Q.length ≤ k ∧ st.M.length ≤ k ∧ st.E.length ≤ k
theorem leS.small {st : ApiState} {k : Nat} (h : leS st k) (hk : k ≤ 1000000000) : small st := ⟨by have := h.1; omega, by have := h.2.1; omega, by have := h.2.2; omega⟩

theorem tl11_L3 (p : Int) (R : Int → Int → Option Int) (x : ApiRung) (hx : x.Contacts.length ≤ 1500000) : ∀ (k i : Nat) (s : Int), i ≤ x.Contacts.length → x.Contacts.length - i < k → ∃ s', law11_TooLarge_L3 p R x k s i = R (IntKind.i64.wrap (p + 1)) s'
  | 0, i, s, h1, h2 => by omega
  | k + 1, i, s, h1, h2 => by
    unfold law11_TooLarge_L3
    by_cases hi : i < x.Contacts.length
    · obtain ⟨c, hc⟩ := get_ex hi
      have hlt : (i : Int) < x.Contacts.length := by omega
      have hw := wrapN (i := i) (by omega)
      simp only [atI_nat, hc, hlt, decide_true, if_true, Option.bind_some, hw]
      exact tl11_L3 p R x hx k (i + 1) _ (by omega) (by omega)
    · have hge : ¬ (i : Int) < x.Contacts.length := by omega
      simp only [hge, decide_false, Bool.false_eq_true, if_false]
      exact ⟨s, rfl⟩

theorem tl11_L2 (l : ApiLadder) (hb : bigL l) : ∀ (k i : Nat) (s : Int), i ≤ l.Rungs.length → l.Rungs.length - i < k → ∃ b : Int, law11_TooLarge_L2 2000000 l k i s = some b ∧ (¬ b > 0 → l.Rungs.length ≤ 70)
  | 0, i, s, h1, h2 => by omega
  | k + 1, i, s, h1, h2 => by
    have hlen := hb.len
    unfold law11_TooLarge_L2
    by_cases hi : i < l.Rungs.length
    · obtain ⟨r, hr⟩ := get_ex hi
      have hlt : (i : Int) < l.Rungs.length := by omega
      have hw := wrapN (i := i) (by omega)
      have hp := hb.parts r (List.mem_of_getElem? hr)
      simp only [atI_nat, hr, hlt, decide_true, if_true, Option.bind_some]
      have h3 := tl11_L3 i (law11_TooLarge_L2 2000000 l k) r hp.1 2000000 0 (IntKind.i64.wrap (s + IntKind.i64.wrap (IntKind.i64.wrap (IntKind.i64.wrap ((r.Contacts.length : Int) + (r.Coils.length : Int)) + (r.Label.size : Int)) + (r.Jump.size : Int)))) (Nat.zero_le _) (by omega)
      obtain ⟨s', h3⟩ := h3
      rw [Int.natCast_zero] at h3
      have ih := tl11_L2 l hb k (i + 1) s' (by omega) (by omega)
      rw [hw] at h3
      obtain ⟨b, e1, e2⟩ := ih
      exact ⟨b, h3.trans e1, e2⟩
    · have hge : ¬ (i : Int) < l.Rungs.length := by omega
      simp only [hge, decide_false, Bool.false_eq_true, if_false]
      unfold law11_TooLarge_J1
      by_cases h70 : (l.Rungs.length : Int) > 70
      · exact ⟨1, by simp [h70], fun h => by simp at h⟩
      · by_cases hs : s > 20000
        · exact ⟨1, by simp [h70, hs], fun h => by simp at h⟩
        · exact ⟨0, by simp [h70, hs], fun _ => by omega⟩

theorem tl17_L2 (l : ApiLadder) (hb : bigL l) : ∀ (k i : Nat) (s : Int), i ≤ l.Rungs.length → l.Rungs.length - i < k → ∃ b : Int, law17_TooLarge_L2 2000000 l k s i = some b ∧ (¬ b > 0 → l.Rungs.length ≤ 70 ∧ ∀ r ∈ l.Rungs.drop i, r.Contacts.length ≤ 40)
  | 0, i, s, h1, h2 => by omega
  | k + 1, i, s, h1, h2 => by
    have hlen := hb.len
    unfold law17_TooLarge_L2
    by_cases hi : i < l.Rungs.length
    · obtain ⟨r, hr⟩ := get_ex hi
      have hlt : (i : Int) < l.Rungs.length := by omega
      have hw := wrapN (i := i) (by omega)
      simp only [atI_nat, hr, hlt, decide_true, if_true, Option.bind_some, hw]
      by_cases h40 : (r.Contacts.length : Int) > 40
      · exact ⟨1, by simp [h40], fun h => by simp at h⟩
      · obtain ⟨b, e1, e2⟩ := tl17_L2 l hb k (i + 1) (IntKind.i64.wrap (s + (r.Contacts.length : Int))) (by omega) (by omega)
        refine ⟨b, ?_, fun h => ⟨(e2 h).1, ?_⟩⟩
        · simp only [h40, decide_false, Bool.false_eq_true, if_false]; exact e1
        · rw [drop_cons hr]
          intro q hq
          rcases List.mem_cons.1 hq with rfl | hq
          · omega
          · exact (e2 h).2 q hq
    · have hge : ¬ (i : Int) < l.Rungs.length := by omega
      simp only [hge, decide_false, Bool.false_eq_true, if_false]
      unfold law17_TooLarge_J1
      by_cases hs : s > 200
      · exact ⟨1, by simp [hs], fun h => by simp at h⟩
      · obtain ⟨b, e1, e2⟩ := tl11_L2 l hb 2000000 0 0 (Nat.zero_le _) (by omega)
        rw [Int.natCast_zero] at e1
        refine ⟨b, ?_, fun h => ⟨e2 h, ?_⟩⟩
        · simp only [hs, decide_false, Bool.false_eq_true, if_false, law11_TooLarge, e1, Option.bind_some]
        · rw [List.drop_eq_nil_of_le (by omega)]; intro r hr; simp at hr

theorem tl03 (st : ApiState) : ∃ b : Int, law03_TooLarge 2000000 [st] = some b ∧ (¬ b > 0 → leS st 1000) := by
  unfold law03_TooLarge
  rw [show (2000000 : Nat) = 1999998 + 1 + 1 from rfl]
  unfold law03_TooLarge_L1
  unfold law03_TooLarge_L1
  rw [show IntKind.i64.wrap ((0 : Int) + 1) = 1 from rfl]
  by_cases h1 : (st.Q.length : Int) > 1000
  · exact ⟨1, by simp [atI, h1], fun h => by simp at h⟩
  · by_cases h2 : (st.M.length : Int) > 1000
    · exact ⟨1, by simp [atI, h1, h2], fun h => by simp at h⟩
    · by_cases h3 : (st.E.length : Int) > 1000
      · exact ⟨1, by simp [atI, h1, h2, h3], fun h => by simp at h⟩
      · exact ⟨0, by simp [atI, h1, h2, h3], fun _ => ⟨by omega, by omega, by omega⟩⟩

theorem tl20_L2 (l : ApiLadder) (st : ApiState) (ins : List (List Bool)) (hb : bigL l) (hi : ins.length ≤ 1500000) : ∀ (k i : Nat), i ≤ ins.length → ins.length - i < k →
    ∃ b : Int, law20_TooLarge_L2 2000000 l st ins k i = some b ∧ (¬ b > 0 → okL l ∧ leS st 1000 ∧ ins.length ≤ 30 ∧ ∀ x ∈ ins.drop i, x.length ≤ 500)
  | 0, i, h1, h2 => by omega
  | k + 1, i, h1, h2 => by
    unfold law20_TooLarge_L2
    by_cases hlt0 : i < ins.length
    · obtain ⟨x, hx⟩ := get_ex hlt0
      have hlt : (i : Int) < ins.length := by omega
      have hw := wrapN (i := i) (by omega)
      simp only [atI_nat, hx, hlt, decide_true, if_true, Option.bind_some, hw]
      by_cases h5 : (x.length : Int) > 500
      · exact ⟨1, by simp [h5], fun h => by simp at h⟩
      · obtain ⟨b, e1, e2⟩ := tl20_L2 l st ins hb hi k (i + 1) (by omega) (by omega)
        refine ⟨b, ?_, fun h => ⟨(e2 h).1, (e2 h).2.1, (e2 h).2.2.1, ?_⟩⟩
        · simp only [h5, decide_false, Bool.false_eq_true, if_false]; exact e1
        · rw [drop_cons hx]
          intro q hq
          rcases List.mem_cons.1 hq with rfl | hq
          · omega
          · exact (e2 h).2.2.2 q hq
    · have hge : ¬ (i : Int) < ins.length := by omega
      simp only [hge, decide_false, Bool.false_eq_true, if_false]
      unfold law20_TooLarge_J1
      by_cases h30 : (ins.length : Int) > 30
      · exact ⟨1, by simp [h30], fun h => by simp at h⟩
      · obtain ⟨b3, c1, c2⟩ := tl03 st
        by_cases hb3 : b3 > 0
        · exact ⟨1, by simp [h30, c1, hb3], fun h => by simp at h⟩
        · have hlen := hb.len
          obtain ⟨b, e1, e2⟩ := tl17_L2 l hb 2000000 0 0 (Nat.zero_le _) (by omega)
          rw [Int.natCast_zero] at e1
          refine ⟨b, ?_, fun h => ⟨⟨(e2 h).1, fun r hr => ⟨(e2 h).2 r (by simpa using hr), (hb.parts r hr).2⟩⟩, c2 hb3, by omega, ?_⟩⟩
          · simp only [h30, c1, hb3, decide_false, Bool.false_eq_true, if_false, law17_TooLarge, e1, Option.bind_some]
          · rw [List.drop_eq_nil_of_le (by omega)]; intro r hr; simp at hr

theorem tl20 (l : ApiLadder) (st : ApiState) (ins : List (List Bool)) (hb : bigL l) (hi : ins.length ≤ 1500000) :
    ∃ b : Int, law20_TooLarge 2000000 l st ins = some b ∧ (¬ b > 0 → okL l ∧ leS st 1000 ∧ ins.length ≤ 30 ∧ ∀ x ∈ ins, x.length ≤ 500) := by
  obtain ⟨b, e1, e2⟩ := tl20_L2 l st ins hb hi 2000000 0 (Nat.zero_le _) (by omega)
  rw [Int.natCast_zero, List.drop_zero] at *
  exact ⟨b, e1, e2⟩

end Go.G

namespace Go.G
open Go.Av

section
variable (l : ApiLadder) (ins : List Bool) (hok : okL l) (hck : (checkS l).2 = 0)
include hok hck
theorem ladS_good : ∀ (m i : Nat) (skip : Str) (st : ApiState) (did : List Bool), l.Rungs.length - i ≤ m → Good l ins st did → Good l ins (ladS ins (basesS l) (l.Rungs.drop i) i skip st did).1 (ladS ins (basesS l) (l.Rungs.drop i) i skip st did).2
  | m, i, skip, st, did, hm, h => by
    by_cases hi : i < l.Rungs.length
    · obtain ⟨r, hr⟩ := get_ex hi
      rw [drop_cons hr]
      obtain ⟨b, b1, b2, b3, b4, b5⟩ := step_ok l ins hok hck h hr
      have hbg : (basesS l)[i]?.getD 0 = b := by rw [b1]; rfl
      match m, hm with
      | m + 1, hm =>
        unfold ladS
        split
        · exact ladS_good m (i + 1) skip st did (by omega) h
        · rw [hbg]
          exact ladS_good m (i + 1) _ _ _ (by omega) b5
      | 0, hm => omega
    · rw [List.drop_eq_nil_of_le (by omega)]
      exact h
end

theorem ladScan_small (l : ApiLadder) (ins : List Bool) (st : ApiState) (hok : okL l) : (∃ k, k ≤ 1000000 ∧ leS (ladScan l ins st).1 k) ∧ (ladScan l ins st).2.1.length ≤ 1000000 := by
  have hno : leS noState 0 := by simp [leS, noState]
  unfold ladScan
  split
  · exact ⟨⟨0, by omega, hno⟩, by simp⟩
  · rename_i hck
    have hck : (checkS l).2 = 0 := by simpa using hck
    split
    · rename_i hf
      obtain ⟨e1, e2, e3, e4⟩ := hf
      have hg := ladS_good l ins hok hck l.Rungs.length 0 noStr st (List.replicate l.Rungs.length false) (by omega) ⟨⟨e1, e2, e3⟩, e4, by simp⟩
      rw [List.drop_zero] at hg
      obtain ⟨⟨a1, a2⟩, ⟨a3, a4⟩, a5, a6⟩ := (check_ok hck).1
      simp only [sizesOf] at a1 a2 a3 a4 a5 a6
      have hsum := sum_small l hok hck
      have g1 := hg.fit.2.1
      have g2 := hg.fit.2.2
      have g3 := hg.e
      have g4 := hg.did
      have hlen := hok.len
      generalize ladS ins (basesS l) l.Rungs 0 noStr st (List.replicate l.Rungs.length false) = w at g1 g2 g3 g4 ⊢
      obtain ⟨w1, w2⟩ := w
      simp only at g1 g2 g3 g4 ⊢
      exact ⟨⟨1000000, Nat.le_refl _, by show _ ≤ _; omega, by show _ ≤ _; omega, by show _ ≤ _; omega⟩, by omega⟩
    · exact ⟨⟨0, by omega, hno⟩, by simp⟩

theorem eqI : ∀ (a : List Int) (k i : Nat), a.length ≤ 1000000000 → i ≤ a.length → a.length - i < k → slices_Equal_int_L1 a a k i = some true
  | a, 0, i, h0, h1, h2 => by omega
  | a, k + 1, i, h0, h1, h2 => by
    unfold slices_Equal_int_L1
    by_cases hi : i < a.length
    · obtain ⟨x, hx⟩ := get_ex hi
      have hlt : (i : Int) < a.length := by omega
      have hw := wrapN (i := i) (by omega)
      have ih := eqI a k (i + 1) h0 (by omega) (by omega)
      simp only [atI_nat, hx, hlt, decide_true, if_true, Option.bind_some, hw, bne_self_eq_false, Bool.false_eq_true, if_false]
      exact ih
    · have hge : ¬ (i : Int) < a.length := by omega
      simp [hge]

theorem Equal_int_refl (n : Nat) (a : List Int) (h : a.length < n) (hb : n ≤ 1000000000) : slices_Equal_int n a a = some true := by
  unfold slices_Equal_int
  have := eqI a n 0 (by omega) (Nat.zero_le _) (by omega)
  rw [Int.natCast_zero] at this
  simp [this]

theorem Equal_refl (st : ApiState) {k : Nat} (h : leS st k) (hk : k ≤ 1000000) : ref03_Equal 2000000 st st = some true := by
  rw [ref03_Equal_eq 2000000 st st ⟨by have := h.1; omega, by have := h.2.1; omega, by have := h.2.2; omega⟩ (h.small (by omega))]
  simp

theorem EqualB_refl (a : List Bool) (h : a.length ≤ 1000000) : slices_Equal_bool 2000000 a a = some true := by
  rw [slices_Equal_eq 2000000 a a (by omega) (by omega)]
  simp

theorem scan20_loop (l : ApiLadder) (st : ApiState) (ins : List (List Bool)) (hok : okL l) (hs : leS st 1000) (hi : ins.length ≤ 30) : ∀ (k i : Nat), i ≤ ins.length → ins.length - i < k → law20_PathmodelScanMatchesReference_L2 2000000 l st ins st k i = some true
  | 0, i, h1, h2 => by omega
  | k + 1, i, h1, h2 => by
    unfold law20_PathmodelScanMatchesReference_L2
    by_cases hlt0 : i < ins.length
    · obtain ⟨x, hx⟩ := get_ex hlt0
      have hlt : (i : Int) < ins.length := by omega
      have hw := wrapN (i := i) (by omega)
      have ih := scan20_loop l st ins hok hs hi k (i + 1) (by omega) (by omega)
      obtain ⟨⟨kk, hk1, hk2⟩, hd⟩ := ladScan_small l x st hok
      simp only [atI_nat, hx, hlt, decide_true, if_true, Option.bind_some, hw, pathmodel_Scan_eq l x st hok (hs.small (by omega)), ref20_Scan_eq l x st hok (hs.small (by omega)), Equal_refl _ hk2 hk1, EqualB_refl _ hd,
        Bool.not_true, Bool.false_eq_true, if_false, bne_self_eq_false]
      exact ih
    · have hge : ¬ (i : Int) < ins.length := by omega
      have hlen := hok.len
      have hp : ∀ r ∈ l.Rungs, r.Contacts.length ≤ 1000 := fun r hr => by have := (hok.parts r hr).1; omega
      have hbl : (basesS l).length ≤ 71 := by simp [basesS, basesL_length]; omega
      simp only [hge, decide_false, Bool.false_eq_true, if_false, law20_PathmodelScanMatchesReference_J1, alive20, Option.bind_some, if_true, SlotBases_eq 2000000 l (by omega) (by omega) (by omega) hp, ref20_SlotBases_eq 2000000 l (by omega) (by omega) (by omega) hp,
        Equal_int_refl 2000000 (basesS l) (by omega) (by omega), Equal_refl st hs (by omega)]

theorem scan20_law (l : ApiLadder) (st : ApiState) (ins : List (List Bool)) (hb : bigL l) (hi : ins.length ≤ 1500000) : law20_PathmodelScanMatchesReference 2000000 l st ins = some true := by
  obtain ⟨b, e1, e2⟩ := tl20 l st ins hb hi
  unfold law20_PathmodelScanMatchesReference
  rw [e1]
  by_cases h : b > 0
  · simp [h, alive20]
  · obtain ⟨h1, h2, h3, h4⟩ := e2 h
    have hl := scan20_loop l st ins h1 h2 h3 2000000 0 (Nat.zero_le _) (by omega)
    have hcl := ref03_Clone_eq 2000000 st (h2.small (by omega))
    generalize (2000000 : Nat) = N at hl hcl ⊢
    simp only [Option.bind_some, h, decide_false, Bool.false_eq_true, if_false, hcl]
    rw [Int.natCast_zero] at hl
    exact hl

end Go.G

namespace Go.G
open Go.Av

noncomputable def runS (l : ApiLadder) : List (List Bool) → Nat → ApiState → List ApiState → List ApiState × Int × Int
  | [], i, _, acc => (acc, i, 0)
  | x :: xs, i, st, acc => if (ladScan l x st).2.2 ≠ 0 then ([], i, (ladScan l x st).2.2) else runS l xs (i + 1) (ladScan l x st).1 (acc ++ [(ladScan l x st).1])

theorem leS.mono {st : ApiState} {k m : Nat} (h : leS st k) (hm : k ≤ m) : leS st m := ⟨Nat.le_trans h.1 hm, Nat.le_trans h.2.1 hm, Nat.le_trans h.2.2 hm⟩
theorem ladScan_le (l : ApiLadder) (ins : List Bool) (st : ApiState) (hok : okL l) : leS (ladScan l ins st).1 1000000 := by
  obtain ⟨⟨k, h1, h2⟩, _⟩ := ladScan_small l ins st hok
  exact h2.mono h1

theorem runS_le (l : ApiLadder) (hok : okL l) : ∀ (xs : List (List Bool)) (i : Nat) (st : ApiState) (acc : List ApiState), (∀ x ∈ acc, leS x 1000000) → (∀ x ∈ (runS l xs i st acc).1, leS x 1000000) ∧ (runS l xs i st acc).1.length ≤ acc.length + xs.length
  | [], i, st, acc, h => ⟨h, by simp [runS]⟩
  | x :: xs, i, st, acc, h => by
    unfold runS
    split
    · exact ⟨by simp, by simp⟩
    · obtain ⟨a, b⟩ := runS_le l hok xs (i + 1) (ladScan l x st).1 (acc ++ [(ladScan l x st).1]) (by
        intro y hy
        rcases List.mem_append.1 hy with hy | hy
        · exact h y hy
        · simp at hy; subst hy; exact ladScan_le l x st hok)
      exact ⟨a, by simp at b ⊢; omega⟩

theorem run_loops (l : ApiLadder) (ins : List (List Bool)) (hok : okL l) (hi : ins.length ≤ 1000000) : ∀ (k i : Nat) (st : ApiState) (acc : List ApiState), leS st 1000000 → acc.length = i → i ≤ ins.length → ins.length - i < k →
    pathmodel_Run_L1 2000000 l ins k i st.Q st.M st.E acc = some (runS l (ins.drop i) i st acc) ∧ ref20_Run_L1 2000000 l ins k i st.Q st.M st.E acc = some (runS l (ins.drop i) i st acc)
  | 0, i, st, acc, h0, h1, h2, h3 => by omega
  | k + 1, i, st, acc, h0, h1, h2, h3 => by
    unfold pathmodel_Run_L1 ref20_Run_L1
    by_cases hlt0 : i < ins.length
    · obtain ⟨x, hx⟩ := get_ex hlt0
      have hlt : (i : Int) < ins.length := by omega
      have hw := wrapN (i := i) (by omega)
      have hle := ladScan_le l x st hok
      have ih := run_loops l ins hok hi k (i + 1) (ladScan l x st).1 (acc ++ [(ladScan l x st).1]) hle (by simp [h1]) (by omega) (by omega)
      rw [drop_cons hx]
      have hln : acc.length + [(ladScan l x st).1].length ≤ 1000000000 := by simp; omega
      simp only [atI_nat, hx, hlt, decide_true, if_true, Option.bind_some, hw]
      rw [show (⟨st.Q, st.M, st.E⟩ : ApiState) = st from rfl, pathmodel_Scan_eq l x st hok (h0.small (by omega)), ref20_Scan_eq l x st hok (h0.small (by omega))]
      simp only [Option.bind_some, state_Clone_eq 2000000 _ (hle.small (by omega))]
      by_cases he : (ladScan l x st).2.2 = 0
      · have hb : ((ladScan l x st).2.2 != 0) = false := by rw [he]; rfl
        simp only [hb, Bool.false_eq_true, if_false]
        have er : runS l (x :: ins.drop (i + 1)) i st acc = runS l (ins.drop (i + 1)) (i + 1) (ladScan l x st).1 (acc ++ [(ladScan l x st).1]) := by
          conv => lhs; unfold runS
          rw [if_neg (by rw [he]; simp)]
        rw [er]
        exact ⟨(if_pos hln).trans ih.1, (if_pos hln).trans ih.2⟩
      · have hb : ((ladScan l x st).2.2 != 0) = true := by simpa using he
        have er : runS l (x :: ins.drop (i + 1)) i st acc = ([], (i : Int), (ladScan l x st).2.2) := by
          conv => lhs; unfold runS
          rw [if_pos he]
        rw [er]
        simp only [hb, if_true, and_self]
    · have hge : ¬ (i : Int) < ins.length := by omega
      have hie : i = ins.length := by omega
      rw [List.drop_eq_nil_of_le (by omega)]
      simp [hge, runS, hie]

theorem Run_eq (l : ApiLadder) (st : ApiState) (ins : List (List Bool)) (hok : okL l) (hs : leS st 1000000) (hi : ins.length ≤ 1000000) : pathmodel_Run 2000000 l st ins = some (runS l ins 0 st []) := by
  have := (run_loops l ins hok hi 2000000 0 st [] hs rfl (Nat.zero_le _) (by omega)).1
  rw [Int.natCast_zero, List.drop_zero] at this
  exact this

theorem ref20_Run_eq (l : ApiLadder) (st : ApiState) (ins : List (List Bool)) (hok : okL l) (hs : leS st 1000000) (hi : ins.length ≤ 1000000) : ref20_Run 2000000 l st ins = some (runS l ins 0 st []) := by
  have := (run_loops l ins hok hi 2000000 0 st [] hs rfl (Nat.zero_le _) (by omega)).2
  rw [Int.natCast_zero, List.drop_zero] at this
  exact this

theorem run20_loop (a : List ApiState) (ha : ∀ x ∈ a, leS x 1000000) (hl : a.length ≤ 1000000) : ∀ (k i : Nat), i ≤ a.length → a.length - i < k → law20_PathmodelRunMatchesReference_L1 2000000 a a k i = some true
  | 0, i, h1, h2 => by omega
  | k + 1, i, h1, h2 => by
    unfold law20_PathmodelRunMatchesReference_L1
    by_cases hi : i < a.length
    · obtain ⟨x, hx⟩ := get_ex hi
      have hlt : (i : Int) < a.length := by omega
      have hw := wrapN (i := i) (by omega)
      have ih := run20_loop a ha hl k (i + 1) (by omega) (by omega)
      simp only [atI_nat, hx, hlt, decide_true, if_true, Option.bind_some, hw, Equal_refl x (ha x (List.mem_of_getElem? hx)) (by omega), Bool.not_true, Bool.false_eq_true, if_false]
      exact ih
    · have hge : ¬ (i : Int) < a.length := by omega
      simp [hge, alive20]

theorem run20_law (l : ApiLadder) (st : ApiState) (ins : List (List Bool)) (hb : bigL l) (hi : ins.length ≤ 1500000) : law20_PathmodelRunMatchesReference 2000000 l st ins = some true := by
  obtain ⟨b, e1, e2⟩ := tl20 l st ins hb hi
  unfold law20_PathmodelRunMatchesReference
  rw [e1]
  by_cases h : b > 0
  · simp [h, alive20]
  · obtain ⟨h1, h2, h3, h4⟩ := e2 h
    have hr1 := Run_eq l st ins h1 (h2.mono (by omega)) (by omega)
    have hr2 := ref20_Run_eq l st ins h1 (h2.mono (by omega)) (by omega)
    obtain ⟨g1, g2⟩ := runS_le l h1 ins 0 st [] (by simp)
    have hl := run20_loop (runS l ins 0 st []).1 g1 (by simp at g2; omega) 2000000 0 (Nat.zero_le _) (by simp at g2; omega)
    rw [Int.natCast_zero] at hl
    generalize (2000000 : Nat) = N at hr1 hr2 hl ⊢
    simp only [Option.bind_some, h, decide_false, Bool.false_eq_true, if_false, hr1, hr2, bne_self_eq_false]
    exact hl

end Go.G

namespace Go.G
open Go.Av

theorem ladS_low (ins : List Bool) (bases : List Int) : ∀ (rs : List ApiRung) (i : Nat) (skip : Str) (st : ApiState) (did : List Bool) (j : Nat), j < i → (ladS ins bases rs i skip st did).2[j]? = did[j]?
  | [], i, skip, st, did, j, h => rfl
  | r :: rs, i, skip, st, did, j, h => by
    unfold ladS
    split
    · exact ladS_low ins bases rs (i + 1) skip st did j (by omega)
    · rw [ladS_low ins bases rs (i + 1) _ _ _ j (by omega), List.getElem?_set_ne (by omega)]

theorem exec_loop (l : ApiLadder) (a1 : ApiState) (ins : List Bool) (hlen : l.Rungs.length ≤ 1000000) (bases : List Int) (D : List Bool) (R : Option Bool) (hR : law20_PathmodelExecutesAllRungs_J2 2000000 l a1 ins = R) :
    ∀ (k i : Nat) (skips : Bool) (skip : Str) (st : ApiState) (did : List Bool), i ≤ l.Rungs.length → l.Rungs.length - i < k → (skip ≠ noStr → skips = true) → did.length = l.Rungs.length → (∀ j, i ≤ j → j < l.Rungs.length → did[j]? = some false) → (ladS ins bases (l.Rungs.drop i) i skip st did).2 = D →
    law20_PathmodelExecutesAllRungs_L3 2000000 l a1 ins D k skips i = R
  | 0, i, skips, skip, st, did, h1, h2, h3, h4, h5, h6 => by omega
  | k + 1, i, skips, skip, st, did, h1, h2, h3, h4, h5, h6 => by
    unfold law20_PathmodelExecutesAllRungs_L3
    by_cases hi : i < l.Rungs.length
    · obtain ⟨r, hr⟩ := get_ex hi
      have hlt : (i : Int) < l.Rungs.length := by omega
      have hw := wrapN (i := i) (by omega)
      rw [drop_cons hr] at h6
      unfold ladS at h6
      simp only [atI_nat, hr, hlt, decide_true, if_true, Option.bind_some]
      by_cases hc : skip ≠ noStr ∧ r.Label ≠ skip
      · rw [if_pos hc] at h6
        have hD : D[i]? = some false := by rw [← h6, ladS_low _ _ _ _ _ _ _ i (by omega)]; exact h5 i (Nat.le_refl _) hi
        have hsk := h3 hc.1
        subst hsk
        have ih := exec_loop l a1 ins hlen bases D R hR k (i + 1) true skip st did (by omega) (by omega) (fun _ => rfl) h4 (fun j hj => h5 j (by omega)) h6
        simp only [hD, Option.bind_some, Bool.not_false, if_true, Bool.not_true, Bool.false_eq_true, if_false, law20_PathmodelExecutesAllRungs_J4, law20_PathmodelExecutesAllRungs_J5, atI_nat, hw, ih]
        split <;> rfl
      · rw [if_neg hc] at h6
        have hdl : (did.set i true)[i]? = some true := by rw [List.getElem?_set_self (by omega)]
        have hD : D[i]? = some true := by rw [← h6, ladS_low _ _ _ _ _ _ _ i (by omega)]; exact hdl
        generalize hq : scanS r ins st (bases[i]?.getD 0) = q at h6
        have hgo : ∀ sk, ((if q.2.1 = true then r.Jump else noStr) ≠ noStr → sk = true) → law20_PathmodelExecutesAllRungs_L3 2000000 l a1 ins D k sk ((i + 1 : Nat) : Int) = R := fun sk hsk =>
          exec_loop l a1 ins hlen bases D R hR k (i + 1) sk _ q.1 (did.set i true) (by omega) (by omega) hsk (by simpa using h4) (fun j hj hjl => by rw [List.getElem?_set_ne (by omega)]; exact h5 j (by omega) hjl) h6
        have h5' : ∀ b, law20_PathmodelExecutesAllRungs_J5 D i (law20_PathmodelExecutesAllRungs_L3 2000000 l a1 ins D k) r b = R := by
          intro b
          unfold law20_PathmodelExecutesAllRungs_J5
          simp only [atI_nat, hD, Option.bind_some, hw]
          cases b with
          | true => simp only [if_true]; exact hgo true (fun _ => rfl)
          | false =>
            by_cases hj : r.Jump = (⟨#[]⟩ : Str)
            · simp only [Bool.false_eq_true, if_false, hj, decide_true, Bool.not_true]
              refine hgo false (fun h => absurd ?_ h)
              split
              · exact hj
              · rfl
            · simp only [Bool.false_eq_true, if_false, hj, decide_false, Bool.not_false, if_true]
              exact hgo true (fun _ => rfl)
        simp only [hD, Option.bind_some, Bool.not_true, Bool.false_eq_true, if_false, law20_PathmodelExecutesAllRungs_J4, atI_nat, if_true, h5']
        split <;> rfl
    · have hge : ¬ (i : Int) < l.Rungs.length := by omega
      simp [hge, hR]

theorem ladScan_zero {l : ApiLadder} {ins : List Bool} {st : ApiState} (h : (ladScan l ins st).2.2 = 0) : (checkS l).2 = 0 ∧ fitS l ins st ∧ st.E.length = sumE l.Rungs ∧
    ladScan l ins st = ((ladS ins (basesS l) l.Rungs 0 noStr st (List.replicate l.Rungs.length false)).1, (ladS ins (basesS l) l.Rungs 0 noStr st (List.replicate l.Rungs.length false)).2, 0) := by
  unfold ladScan at h ⊢
  by_cases hck : (checkS l).2 = 0
  · rw [if_neg (by simpa using hck)] at h ⊢
    split at h
    · rename_i hf
      rw [if_pos hf]
      exact ⟨hck, ⟨hf.1, hf.2.1, hf.2.2.1⟩, hf.2.2.2, rfl⟩
    · simp at h
  · rw [if_pos (by simpa using hck)] at h; exact absurd h hck

theorem ladScan_err {l : ApiLadder} {ins : List Bool} {st : ApiState} (h : (ladScan l ins st).2.2 ≠ 0) : (ladScan l ins st).2.1 = [] := by
  unfold ladScan at h ⊢
  split
  · rfl
  · rename_i hck
    rw [if_neg hck] at h
    split
    · rename_i hf; rw [if_pos hf] at h; simp at h
    · rfl

end Go.G

namespace Go.G
open Go.Av

theorem empty_scan {l : ApiLadder} {ins : List Bool} {st : ApiState} (h : (ladScan l ins st).2.2 = 0) : ladScan ⟨l.I, l.Q, l.M, []⟩ ins ⟨st.Q, st.M, []⟩ = (⟨st.Q, st.M, []⟩, [], 0) := by
  obtain ⟨hck, ⟨f1, f2, f3⟩, _, _⟩ := ladScan_zero h
  have hs := (check_ok hck).1
  have hc : checkS ⟨l.I, l.Q, l.M, []⟩ = (0, 0) := by
    unfold checkS
    rw [if_neg (by exact not_not_intro hs)]
    rfl
  unfold ladScan
  rw [hc]
  simp only [ne_eq, not_true, if_false]
  rw [if_pos ⟨f1, f2, f3, rfl⟩]
  rfl

theorem exec_J2 (l : ApiLadder) (st : ApiState) (ins : List Bool) (hs : leS st 1000) (h : (ladScan l ins st).2.2 = 0) : law20_PathmodelExecutesAllRungs_J2 2000000 l st ins = some true := by
  unfold law20_PathmodelExecutesAllRungs_J2
  have hle : leS (⟨st.Q, st.M, []⟩ : ApiState) 1000 := ⟨hs.1, hs.2.1, by simp⟩
  rw [pathmodel_Scan_eq ⟨l.I, l.Q, l.M, []⟩ ins ⟨st.Q, st.M, []⟩ ⟨by simp, by simp⟩ (hle.small (by omega)), empty_scan h]
  simp only [Option.bind_some, alive20, Equal_refl _ hle (by omega)]
  rfl

theorem exec20_law (l : ApiLadder) (st : ApiState) (ins : List Bool) (hb : bigL l) : law20_PathmodelExecutesAllRungs 2000000 l st ins = some true := by
  obtain ⟨b, e1, e2⟩ := tl20 l st [ins] hb (by simp)
  unfold law20_PathmodelExecutesAllRungs
  simp only [Option.bind_some]
  rw [e1]
  by_cases h : b > 0
  · simp [h, alive20]
  · obtain ⟨h1, h2, h3, h4⟩ := e2 h
    have hsc := pathmodel_Scan_eq l ins st h1 (h2.small (by omega))
    simp only [Option.bind_some, h, decide_false, Bool.false_eq_true, if_false, hsc]
    by_cases he : (ladScan l ins st).2.2 = 0
    · have hb0 : ((ladScan l ins st).2.2 != 0) = false := by rw [he]; rfl
      obtain ⟨hck, hfit, hE, heq⟩ := ladScan_zero he
      have hg := ladS_good l ins h1 hck l.Rungs.length 0 noStr st (List.replicate l.Rungs.length false) (by omega) ⟨hfit, hE, by simp⟩
      rw [List.drop_zero] at hg
      have hJ2 := exec_J2 l st ins h2 he
      have hlen := h1.len
      have hloop := exec_loop l st ins (by omega) (basesS l) _ _ hJ2 2000000 0 false noStr st (List.replicate l.Rungs.length false) (Nat.zero_le _) (by omega) (fun h => absurd rfl h) (by simp) (fun j _ hj => by simp [List.getElem?_replicate, hj]) rfl
      rw [Int.natCast_zero, List.drop_zero] at hloop
      have hJ1 : law20_PathmodelExecutesAllRungs_J1 2000000 l st ins (ladScan l ins st).2.1 = some true := by
        unfold law20_PathmodelExecutesAllRungs_J1
        rw [heq]; exact hloop
      have hdl : (ladScan l ins st).2.1.length = l.Rungs.length := by rw [heq]; exact hg.did
      have hb1 : (((ladScan l ins st).2.1.length : Int) != (l.Rungs.length : Int)) = false := by rw [hdl]; simp
      simp only [hb0, hb1, Bool.false_eq_true, if_false, hJ1]
      by_cases h0 : ((ladScan l ins st).2.1.length : Int) > 0
      · have hpos : 0 < l.Rungs.length := by omega
        obtain ⟨r, hr⟩ := get_ex hpos
        have hD0 : (ladScan l ins st).2.1[0]? = some true := by
          rw [heq]
          have hd : l.Rungs = r :: l.Rungs.drop 1 := by have := drop_cons hr; simpa using this
          show (ladS ins (basesS l) l.Rungs 0 noStr st (List.replicate l.Rungs.length false)).2[0]? = some true
          conv => lhs; rw [show ladS ins (basesS l) l.Rungs 0 noStr st (List.replicate l.Rungs.length false) = ladS ins (basesS l) (r :: l.Rungs.drop 1) 0 noStr st (List.replicate l.Rungs.length false) by rw [← hd]]
          unfold ladS
          rw [if_neg (by simp), ladS_low _ _ _ _ _ _ _ 0 (by omega), List.getElem?_set_self (by simpa using hpos)]
        have hat : atI (ladScan l ins st).2.1 0 = some true := by have := atI_nat (ladScan l ins st).2.1 0; rw [Int.natCast_zero] at this; rw [this]; exact hD0
        simp [h0, hat]
      · simp only [h0, decide_false, Bool.false_eq_true, if_false]
    · have hb0 : ((ladScan l ins st).2.2 != 0) = true := by simpa using he
      simp [hb0, alive20, ladScan_err he]

end Go.G

namespace Go.G
open Go.Av

/-- The states of a run. -/
theorem runS_acc (l : ApiLadder) : ∀ (xs : List (List Bool)) (i : Nat) (st : ApiState) (acc : List ApiState), (runS l xs i st acc).2.2 = 0 →
    (runS l xs i st acc).1 = acc ++ (runS l xs 0 st []).1 ∧ (runS l xs 0 st []).2.2 = 0 ∧ (runS l xs i st acc).2.1 = ((i + xs.length : Nat) : Int)
  | [], i, st, acc, _ => by simp [runS]
  | x :: xs, i, st, acc, h => by
    unfold runS at h
    by_cases he : (ladScan l x st).2.2 = 0
    · rw [if_neg (by rw [he]; simp)] at h
      obtain ⟨a1, a2, a3⟩ := runS_acc l xs (i + 1) (ladScan l x st).1 (acc ++ [(ladScan l x st).1]) h
      have h1 : (runS l xs 1 (ladScan l x st).1 [(ladScan l x st).1]).2.2 = 0 ∧ (runS l xs 1 (ladScan l x st).1 [(ladScan l x st).1]).1 = [(ladScan l x st).1] ++ (runS l xs 0 (ladScan l x st).1 []).1 := by
        have key : ∀ (ys : List (List Bool)) (i j : Nat) (s : ApiState) (a b : List ApiState), (runS l ys i s a).2.2 = (runS l ys j s b).2.2 := by
          intro ys
          induction ys with
          | nil => intro i j s a b; rfl
          | cons y ys ih =>
            intro i j s a b
            unfold runS
            split
            · rfl
            · exact ih _ _ _ _ _
        have hz := (key xs 1 (i + 1) (ladScan l x st).1 [(ladScan l x st).1] (acc ++ [(ladScan l x st).1])).trans h
        exact ⟨hz, (runS_acc l xs 1 (ladScan l x st).1 [(ladScan l x st).1] hz).1⟩
      have e0 : runS l (x :: xs) 0 st [] = runS l xs 1 (ladScan l x st).1 [(ladScan l x st).1] := by
        conv => lhs; unfold runS
        rw [if_neg (by rw [he]; simp)]; rfl
      have ei : runS l (x :: xs) i st acc = runS l xs (i + 1) (ladScan l x st).1 (acc ++ [(ladScan l x st).1]) := by
        conv => lhs; unfold runS
        rw [if_neg (by rw [he]; simp)]
      rw [ei, e0, a1, a3, h1.1, h1.2]
      exact ⟨by simp, rfl, by simp; omega⟩
    · rw [if_pos he] at h; exact absurd h he

/-- Where a run comes to, and the rest of it. -/
theorem runS_append (l : ApiLadder) : ∀ (xs ys : List (List Bool)) (st : ApiState), (runS l (xs ++ ys) 0 st []).2.2 = 0 →
    (runS l xs 0 st []).2.2 = 0 ∧ ∃ st', (xs ≠ [] → (runS l xs 0 st []).1.getLast? = some st') ∧ (xs = [] → st' = st) ∧ (runS l ys 0 st' []).2.2 = 0 ∧ (runS l (xs ++ ys) 0 st []).1 = (runS l xs 0 st []).1 ++ (runS l ys 0 st' []).1
  | [], ys, st, h => ⟨rfl, st, fun h => absurd rfl h, fun _ => rfl, h, by simp [runS]⟩
  | x :: xs, ys, st, h => by
    have he : (ladScan l x st).2.2 = 0 := by
      cases hd : decide ((ladScan l x st).2.2 = 0) with
      | true => simpa using hd
      | false =>
        have hd : (ladScan l x st).2.2 ≠ 0 := by simpa using hd
        rw [List.cons_append] at h
        unfold runS at h
        rw [if_pos hd] at h; exact absurd h hd
    have e1 : ∀ zs, runS l (x :: zs) 0 st [] = runS l zs 1 (ladScan l x st).1 [(ladScan l x st).1] := by
      intro zs
      conv => lhs; unfold runS
      rw [if_neg (by rw [he]; simp)]; rfl
    rw [List.cons_append, e1] at h
    obtain ⟨a1, a2, _⟩ := runS_acc l (xs ++ ys) 1 (ladScan l x st).1 [(ladScan l x st).1] h
    obtain ⟨b1, st', b2, b3, b4, b5⟩ := runS_append l xs ys (ladScan l x st).1 a2
    have key : ∀ (ys : List (List Bool)) (i j : Nat) (s : ApiState) (a b : List ApiState), (runS l ys i s a).2.2 = (runS l ys j s b).2.2 := by
      intro ys
      induction ys with
      | nil => intro i j s a b; rfl
      | cons y ys ih =>
        intro i j s a b
        unfold runS
        split
        · rfl
        · exact ih _ _ _ _ _
    have hz : (runS l xs 1 (ladScan l x st).1 [(ladScan l x st).1]).2.2 = 0 := (key xs 1 0 _ _ []).trans b1
    obtain ⟨c1, _, _⟩ := runS_acc l xs 1 (ladScan l x st).1 [(ladScan l x st).1] hz
    rw [List.cons_append, e1, e1, a1, c1, b5]
    refine ⟨hz, st', fun _ => ?_, fun h => by simp at h, b4, by simp⟩
    by_cases hx : xs = []
    · subst hx; rw [b3 rfl]; simp [runS]
    · have := b2 hx
      rw [List.getLast?_append, this]; rfl

theorem runS_len (l : ApiLadder) (xs : List (List Bool)) (st : ApiState) (h : (runS l xs 0 st []).2.2 = 0) : (runS l xs 0 st []).1.length = xs.length := by
  have : ∀ (xs : List (List Bool)) (i : Nat) (st : ApiState) (acc : List ApiState), (runS l xs i st acc).2.2 = 0 → (runS l xs i st acc).1.length = acc.length + xs.length := by
    intro xs
    induction xs with
    | nil => intro i st acc _; simp [runS]
    | cons x xs ih =>
      intro i st acc h
      unfold runS at h ⊢
      split
      · rename_i he; rw [if_pos he] at h; exact absurd h he
      · rename_i he
        rw [if_neg he] at h
        rw [ih _ _ _ h]; simp; omega
  have := this xs 0 st [] h
  simpa using this

theorem runS_err (l : ApiLadder) : ∀ (xs : List (List Bool)) (i : Nat) (st : ApiState) (acc : List ApiState), (runS l xs i st acc).2.2 ≠ 0 → (runS l xs i st acc).1 = []
  | [], i, st, acc, h => absurd rfl h
  | x :: xs, i, st, acc, h => by
    unfold runS at h ⊢
    split
    · rfl
    · rename_i he
      rw [if_neg he] at h
      exact runS_err l xs _ _ _ h

end Go.G

namespace Go.G
open Go.Av

theorem comp_loop (ins : List (List Bool)) (A B C : List ApiState) (h : Nat) (hh : IntKind.i64.wrap ((ins.length : Int).tdiv 2) = (h : Int)) (hB : B.length = h) (hA : A = B ++ C) (hle : ∀ x ∈ A, leS x 1000000) (hl : A.length ≤ 1000000) :
    ∀ (k i : Nat), i ≤ A.length → A.length - i < k → law20_PathmodelComposition_L1 2000000 ins A B C k i = some true
  | 0, i, h1, h2 => by omega
  | k + 1, i, h1, h2 => by
    unfold law20_PathmodelComposition_L1
    rw [hh]
    by_cases hi : i < A.length
    · obtain ⟨x, hx⟩ := get_ex hi
      have hlt : (i : Int) < A.length := by omega
      have hw := wrapN (i := i) (by omega)
      have ih := comp_loop ins A B C h hh hB hA hle hl k (i + 1) (by omega) (by omega)
      have heq := Equal_refl x (hle x (List.mem_of_getElem? hx)) (by omega)
      by_cases hih : i < h
      · have hb : B[i]? = some x := by rw [hA, List.getElem?_append_left (by omega)] at hx; exact hx
        have c1 : (i : Int) < (h : Int) := by omega
        have c2 : ¬ ((i : Int) ≥ (h : Int)) := by omega
        simp only [hlt, c1, c2, decide_true, decide_false, if_true, atI_nat, hx, hb, Option.bind_some, heq, Bool.not_true, Bool.false_eq_true, if_false, hw]
        exact ih
      · have hc : C[i - h]? = some x := by rw [hA, List.getElem?_append_right (by omega), hB] at hx; exact hx
        have c1 : ¬ (i : Int) < (h : Int) := by omega
        have c2 : ((i : Int) ≥ (h : Int)) := by omega
        have hw2 : IntKind.i64.wrap ((i : Int) - (h : Int)) = ((i - h : Nat) : Int) := by rw [wrapI (by omega) (by omega)]; omega
        simp only [hlt, c1, c2, decide_true, decide_false, if_true, atI_nat, hx, hw2, hc, Option.bind_some, heq, Bool.not_true, Bool.false_eq_true, if_false, hw]
        exact ih
    · have hge : ¬ (i : Int) < A.length := by omega
      simp [hge, alive20]

theorem comp20_law (l : ApiLadder) (st : ApiState) (ins : List (List Bool)) (hb : bigL l) (hi : ins.length ≤ 1500000) : law20_PathmodelComposition 2000000 l st ins = some true := by
  obtain ⟨b, e1, e2⟩ := tl20 l st ins hb hi
  unfold law20_PathmodelComposition
  rw [e1]
  by_cases h : b > 0
  · simp [h, alive20]
  · obtain ⟨h1, h2, h3, h4⟩ := e2 h
    simp only [Option.bind_some, h, decide_false, Bool.false_eq_true, if_false]
    by_cases hs : (ins.length : Int) < 2
    · simp [hs, alive20]
    · have hsm := h2.mono (show 1000 ≤ 1000000 by omega)
      have hh : IntKind.i64.wrap ((ins.length : Int).tdiv 2) = ((ins.length / 2 : Nat) : Int) := by
        rw [show ((ins.length : Int).tdiv 2) = ((ins.length / 2 : Nat) : Int) from rfl]
        exact wrapI (by omega) (by omega)
      have hr1 := Run_eq l st ins h1 hsm (by omega)
      have hr2 := Run_eq l st (ins.take (ins.length / 2)) h1 hsm (by rw [List.length_take]; omega)
      obtain ⟨g1, g2⟩ := runS_le l h1 ins 0 st [] (by simp)
      rw [List.length_nil, Nat.zero_add] at g2
      have hg : 0 ≤ 0 ∧ 0 ≤ ((ins.length / 2 : Nat) : Int) ∧ ((ins.length / 2 : Nat) : Int) ≤ (ins.length : Int) := by omega
      have hg2 : 0 ≤ ((ins.length / 2 : Nat) : Int) ∧ ((ins.length / 2 : Nat) : Int) ≤ (ins.length : Int) ∧ (ins.length : Int) ≤ (ins.length : Int) := by omega
      simp only [hs, decide_false, Bool.false_eq_true, if_false, hr1, Option.bind_some, hh, Int.toNat_natCast]
      rw [if_pos hg, hr2]
      simp only [Option.bind_some]
      by_cases hz : (runS l ins 0 st []).2.2 = 0
      · have hb0 : ((runS l ins 0 st []).2.2 != 0) = false := by rw [hz]; rfl
        have happ := runS_append l (ins.take (ins.length / 2)) (ins.drop (ins.length / 2)) st (by rw [List.take_append_drop]; exact hz)
        rw [List.take_append_drop] at happ
        obtain ⟨a1, st', a2, _, a4, a5⟩ := happ
        have hne : ins.take (ins.length / 2) ≠ [] := by
          intro hn
          have := congrArg List.length hn
          rw [List.length_take, List.length_nil] at this; omega
        have hlB := runS_len l _ st a1
        rw [List.length_take] at hlB
        have hlC := runS_len l _ st' a4
        rw [List.length_drop] at hlC
        have hlA := runS_len l ins st hz
        have hlast := a2 hne
        have hst' : leS st' 1000000 := (runS_le l h1 _ 0 st [] (by simp)).1 st' (List.mem_of_getLast? hlast)
        have hr3 := Run_eq l st' (ins.drop (ins.length / 2)) h1 hst' (by rw [List.length_drop]; omega)
        have hb1 : ((runS l (ins.take (ins.length / 2)) 0 st []).2.2 != 0) = false := by rw [a1]; rfl
        have hb2 : ((runS l (ins.drop (ins.length / 2)) 0 st' []).2.2 != 0) = false := by rw [a4]; rfl
        have hw1 : IntKind.i64.wrap (((ins.length / 2 : Nat) : Int) - 1) = ((ins.length / 2 - 1 : Nat) : Int) := by rw [wrapI (by omega) (by omega)]; omega
        have hw2 : IntKind.i64.wrap ((ins.length : Int) - ((ins.length / 2 : Nat) : Int)) = ((ins.length - ins.length / 2 : Nat) : Int) := by rw [wrapI (by omega) (by omega)]; omega
        have hat : (runS l (ins.take (ins.length / 2)) 0 st []).1[ins.length / 2 - 1]? = some st' := by
          rw [List.getLast?_eq_getElem?, hlB] at hlast
          rw [← hlast]; congr 1; omega
        have hloop := comp_loop ins _ _ _ (ins.length / 2) hh (by rw [hlB]; omega) a5 g1 (by omega) 2000000 0 (Nat.zero_le _) (by omega)
        rw [Int.natCast_zero] at hloop
        have q1 : (((runS l (ins.take (ins.length / 2)) 0 st []).1.length : Int) != ((ins.length / 2 : Nat) : Int)) = false := by rw [hlB]; simp; omega
        have q2 : (((runS l ins 0 st []).1.length : Int) != (ins.length : Int)) = false := by rw [hlA]; simp
        have q3 : (((runS l (ins.drop (ins.length / 2)) 0 st' []).1.length : Int) != ((ins.length - ins.length / 2 : Nat) : Int)) = false := by rw [hlC]; simp
        simp only [hb0, hb1, q1, q2, Bool.false_eq_true, if_false, hw1, atI_nat, hat, Option.bind_some]
        rw [if_pos hg2, hr3]
        simp only [Option.bind_some, hb2, hw2, q3, Bool.false_eq_true, if_false]
        exact hloop
      · have hb0 : ((runS l ins 0 st []).2.2 != 0) = true := by simpa using hz
        simp [hb0, alive20, runS_err l ins 0 st [] hz]

end Go.G

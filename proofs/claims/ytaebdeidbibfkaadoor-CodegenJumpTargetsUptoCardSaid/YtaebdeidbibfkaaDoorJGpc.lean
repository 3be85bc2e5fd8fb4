/- What the check of a ladder answers. No law is proved here. -/
import Derived.Test.YtaebdeidbibfkaaDoorJLawM12
import Derived.Laws.RangeAny
set_option linter.unusedSimpArgs false
set_option linter.unusedVariables false
set_option linter.unusedSectionVars false
namespace Go.G.Pc
open Go.Av
def seesS (c : ApiContact) : Bool := decide (c.Kind = 2) || decide (c.Kind = 3)
def edges : List ApiContact → Nat
  | [] => 0
  | c :: cs => (if seesS c then 1 else 0) + edges cs
theorem sees_eq (n : Nat) (c : ApiContact) : rungeval_sees n c = some (seesS c) := by
  unfold rungeval_sees seesS
  by_cases h : c.Kind = 2
  · simp [h]
  · by_cases h3 : c.Kind = 3 <;> simp [h, h3]
theorem edges_le (cs : List ApiContact) : edges cs ≤ cs.length := by
  induction cs with
  | nil => exact Nat.le_refl _
  | cons c cs ih => simp only [edges, List.length_cons]; split <;> omega
theorem edge_loop (n : Nat) (r : ApiRung) (hn : r.Contacts.length ≤ 1000000000) : ∀ (k i m : Nat), i ≤ r.Contacts.length → m ≤ i → r.Contacts.length - i < k →
    rungeval_EdgeCount_L1 n r k m i = some ((m + edges (r.Contacts.drop i) : Nat) : Int)
  | 0, i, m, h1, h2, h3 => by omega
  | k + 1, i, m, h1, h2, h3 => by
    unfold rungeval_EdgeCount_L1
    by_cases hi : i < r.Contacts.length
    · obtain ⟨c, hc⟩ := get_ex hi
      have hlt : (i : Int) < r.Contacts.length := by omega
      have hw := wrapN (i := i) (by omega)
      have hw2 := wrapN (i := m) (by omega)
      rw [drop_cons hc]
      simp only [atI_nat, hc, hlt, decide_true, if_true, Option.bind_some, hw, hw2, edges, sees_eq]
      have ih0 := edge_loop n r hn k (i + 1) m (by omega) (by omega) (by omega)
      have ih1 := edge_loop n r hn k (i + 1) (m + 1) (by omega) (by omega) (by omega)
      have e1 : ((m + 1 + edges (r.Contacts.drop (i + 1)) : Nat) : Int) = ((m + (1 + edges (r.Contacts.drop (i + 1))) : Nat) : Int) := by omega
      have e0 : ((m + edges (r.Contacts.drop (i + 1)) : Nat) : Int) = ((m + (0 + edges (r.Contacts.drop (i + 1))) : Nat) : Int) := by omega
      rw [e1] at ih1; rw [e0] at ih0
      by_cases h2 : c.Kind = 2
      · simp only [seesS, h2]; exact ih1
      · by_cases h3 : c.Kind = 3
        · simp only [seesS, h3]; exact ih1
        · have h2' : (c.Kind == 2) = false := by simpa using h2
          have h3' : (c.Kind == 3) = false := by simpa using h3
          simp only [seesS, h2, h3, h2', h3']; exact ih0
    · have hge : ¬ (i : Int) < r.Contacts.length := by omega
      simp [hge, List.drop_eq_nil_of_le (show r.Contacts.length ≤ i by omega), edges]
theorem rungeval_EdgeCount_eq (n : Nat) (r : ApiRung) (hn : r.Contacts.length ≤ 1000000000) (h : r.Contacts.length < n) : rungeval_EdgeCount n r = some (edges r.Contacts : Int) := by
  unfold rungeval_EdgeCount
  have := edge_loop n r hn n 0 0 (Nat.zero_le _) (Nat.le_refl _) (by omega)
  simpa using this
def letS (b : Nat) : Bool := (decide (65 ≤ b) && decide (b ≤ 90)) || (decide (97 ≤ b) && decide (b ≤ 122))
def contS (b : Nat) : Bool := letS b || decide (b = 95) || (decide (48 ≤ b) && decide (b ≤ 57))
def nameS (w : Str) : Bool := decide (w ≠ (⟨#[]⟩ : Str)) && decide (w.size ≤ 16) && (match w.data.toList with | [] => true | b :: bs => letS b.toNat && bs.all fun c => contS c.toNat)
theorem lex_letter_eq (n : Nat) (b : Nat) : lex_letter n (b : Int) = some (letS b) := by
  unfold lex_letter letS
  simp only [ge_iff_le]
  rw [show decide ((97 : Int) ≤ (b : Int)) = decide (97 ≤ b) from decide_eq_decide.2 (by omega), show decide ((65 : Int) ≤ (b : Int)) = decide (65 ≤ b) from decide_eq_decide.2 (by omega), show decide ((b : Int) ≤ 122) = decide (b ≤ 122) from decide_eq_decide.2 (by omega), show decide ((b : Int) ≤ 90) = decide (b ≤ 90) from decide_eq_decide.2 (by omega)]
  generalize decide (97 ≤ b) = p1
  generalize decide (65 ≤ b) = p2
  generalize decide (b ≤ 122) = p3
  generalize decide (b ≤ 90) = p4
  revert p1 p2 p3 p4
  decide
theorem size_list (w : Str) : w.data.toList.length = w.size := Array.length_toList
theorem byte_at {w : Str} {i : Nat} {b : UInt8} (hb : w.data.toList[i]? = some b) : ∃ h : i < w.size, w[i]'h = b := by
  have h : i < w.data.toList.length := (List.getElem?_eq_some_iff.1 hb).1
  have h2 : i < w.size := by rw [← size_list]; exact h
  refine ⟨h2, ?_⟩
  have := (List.getElem?_eq_some_iff.1 hb).2
  rw [← this]
  show w.data[i] = _
  exact (Array.getElem_toList _).symm
theorem e95 {b : Nat} : ((b : Int) != 95) = !decide (b = 95) := by
  by_cases h : b = 95
  · simp [h]
  · have : ¬ ((b : Int) = 95) := by omega
    simp [h, this]
theorem e48 {b : Nat} : decide ((b : Int) < 48) = !decide (48 ≤ b) := by
  rw [← decide_not]; exact decide_eq_decide.2 (by omega)
theorem e57 {b : Nat} : decide ((b : Int) > 57) = !decide (b ≤ 57) := by
  rw [← decide_not]; exact decide_eq_decide.2 (by omega)
theorem lex_step (n : Nat) (w : Str) (k i : Nat) (b : UInt8) (hb : w.data.toList[i]? = some b) :
    lex_IsName_L1 n w (k + 1) i = if (letS b.toNat || (decide (i ≠ 0) && contS b.toNat)) = true then lex_IsName_L1 n w k (i + 1) else some false := by
  obtain ⟨h, hbb⟩ := byte_at hb
  conv => lhs; unfold lex_IsName_L1
  simp only [h, decide_true, if_true]
  by_cases ha : b.toNat < 128
  · have hd := decode_ascii w i h (by rw [hbb]; exact ha)
    rw [hbb] at hd
    rw [hd]
    simp only [lex_letter_eq, Option.bind_some]
    rw [e95, e48, e57]
    have hz : ((i : Int) == 0) = decide (i = 0) := by
      by_cases h : i = 0
      · simp [h]
      · have : ¬ ((i : Int) = 0) := by omega
        simp [h]
    rw [hz]
    unfold contS
    generalize letS b.toNat = q0
    generalize decide (b.toNat = 95) = q1
    generalize decide (48 ≤ b.toNat) = q2
    generalize decide (b.toNat ≤ 57) = q3
    by_cases hi : i = 0
    · simp only [hi, decide_true, ne_eq, not_true, decide_false]
      cases q0 <;> cases q1 <;> cases q2 <;> cases q3 <;> rfl
    · simp only [hi, decide_false, ne_eq, not_false_iff, decide_true]
      cases q0 <;> cases q1 <;> cases q2 <;> cases q3 <;> rfl
  · obtain ⟨hd, _⟩ := decode_high w i h (by rw [hbb]; omega)
    generalize hr : (Utf8.decode w i).1 = rr at hd
    have hl : letS rr = false := by simp [letS]; omega
    have hl2 : letS b.toNat = false := by simp [letS]; omega
    have hc : contS b.toNat = false := by simp [contS, hl2]; omega
    simp only [lex_letter_eq, Option.bind_some, hl, hl2, hc, Bool.and_false, Bool.or_false, Bool.not_false, if_true, Bool.false_eq_true, if_false]
    have h1 : ¬ ((rr : Int) < 48) := by omega
    have h2 : (57 < (rr : Int)) := by omega
    have h3 : ¬ ((rr : Int) = 95) := by omega
    by_cases hi : i = 0
    · subst hi; simp
    · simp [hi, h1, h2, h3]
theorem lex_loop (n : Nat) (w : Str) : ∀ (k i : Nat), i ≤ w.size → 0 < i → w.size - i < k → lex_IsName_L1 n w k i = some ((w.data.toList.drop i).all fun c => contS c.toNat)
  | 0, i, h1, h2, h3 => by omega
  | k + 1, i, h1, h2, h3 => by
    by_cases hi : i < w.size
    · obtain ⟨b, hb⟩ := get_ex (l := w.data.toList) (i := i) (by rw [size_list]; exact hi)
      rw [lex_step n w k i b hb, drop_cons hb, List.all_cons]
      have ih := lex_loop n w k (i + 1) (by omega) (by omega) (by omega)
      have hne : decide (i ≠ 0) = true := by simp; omega
      have hlc : letS b.toNat = true → contS b.toNat = true := fun h => by simp [contS, h]
      rw [hne, ih]
      cases hc : contS b.toNat with
      | true => simp
      | false =>
        cases hl : letS b.toNat with
        | true => rw [hlc hl] at hc; cases hc
        | false => simp
    · unfold lex_IsName_L1
      have : w.data.toList.drop i = [] := List.drop_eq_nil_of_le (by rw [size_list]; omega)
      simp [hi, this]
theorem lex_IsName_eq (n : Nat) (w : Str) (hn : 17 < n) : lex_IsName n w = some (nameS w) := by
  unfold lex_IsName nameS
  by_cases h0 : w = (⟨#[]⟩ : Str)
  · simp [h0]
  · by_cases h1 : w.size ≤ 16
    · have hs : ¬ ((w.size : Int) > 16) := by omega
      simp only [h0, hs, decide_false, Bool.false_eq_true, if_false, ne_eq, not_false_iff, decide_true, h1, Bool.true_and]
      obtain ⟨k, rfl⟩ : ∃ k, n = k + 1 := ⟨n - 1, by omega⟩
      cases hl : w.data.toList with
      | nil =>
        exfalso; apply h0
        have : w.data = #[] := by
          apply Array.ext'
          simpa using hl
        cases w; simp at this; subst this; rfl
      | cons b bs =>
        have hb : w.data.toList[0]? = some b := by rw [hl]; rfl
        rw [lex_step (k + 1) w k 0 b hb]
        have hsz : 0 < w.size := by rw [← size_list, hl]; simp
        have := lex_loop (k + 1) w k 1 (by omega) (by omega) (by omega)
        rw [hl] at this
        simp only [ne_eq, not_true, decide_false, Bool.false_and, Bool.or_false, Nat.zero_add, List.drop_one, List.tail_cons] at this ⊢
        rw [this]
        cases letS b.toNat <;> simp
    · have hs : ((w.size : Int) > 16) := by omega
      simp [h0, hs, h1]
def widthS (s : ApiSize) (sp : Int) : Int := if sp = 0 then s.I else if sp = 1 then s.Q else if sp = 2 then s.M else 0
def addrS (s : ApiSize) (a : ApiAddr) : Int := if a.Space < 0 ∨ 2 < a.Space then 8 else if a.N < 0 ∨ widthS s a.Space ≤ a.N then 3 else 0
def partS (s : ApiSize) (k : Int) (a : ApiAddr) : Int := if k < 0 ∨ 4 ≤ k then 8 else addrS s a
def sizeOk (s : ApiSize) : Prop := (0 ≤ s.I ∧ s.I ≤ 256) ∧ (0 ≤ s.Q ∧ s.Q ≤ 256) ∧ (0 ≤ s.M ∧ s.M ≤ 256)
instance (s : ApiSize) : Decidable (sizeOk s) := by unfold sizeOk; infer_instance
theorem within_eq (n : Nat) (x m : Int) : addr_within n x m = some (decide (0 ≤ x ∧ x ≤ m)) := by
  unfold addr_within
  by_cases h : 0 ≤ x <;> simp [h]
theorem Width_eq (n : Nat) (s : ApiSize) (sp : Int) : addr_Width n s sp = some (widthS s sp) := by
  unfold addr_Width widthS
  by_cases h0 : sp = 0
  · simp [h0]
  · by_cases h1 : sp = 1
    · simp [h1]
    · by_cases h2 : sp = 2 <;> simp [h0, h1, h2]
theorem width_le {s : ApiSize} (h : sizeOk s) (sp : Int) : 0 ≤ widthS s sp ∧ widthS s sp ≤ 256 := by
  obtain ⟨h1, h2, h3⟩ := h
  unfold widthS
  repeat' split
  all_goals omega
theorem CheckAddr_eq (n : Nat) (s : ApiSize) (a : ApiAddr) (h : sizeOk s) : addr_CheckAddr n s a = some (addrS s a) := by
  unfold addr_CheckAddr addrS
  have hw := width_le h a.Space
  rw [within_eq, Width_eq]
  simp only [Option.bind_some, within_eq]
  rw [wrapI (by omega) (by omega)]
  by_cases h1 : 0 ≤ a.Space ∧ a.Space ≤ 2
  · have h2 : ¬ (a.Space < 0 ∨ 2 < a.Space) := by omega
    rw [if_neg h2]
    by_cases h3 : 0 ≤ a.N ∧ a.N ≤ widthS s a.Space - 1
    · have h4 : ¬ (a.N < 0 ∨ widthS s a.Space ≤ a.N) := by omega
      simp [h1, h3, h4]
    · have h4 : a.N < 0 ∨ widthS s a.Space ≤ a.N := by omega
      rw [if_pos h4]
      simp only [h1, h3, and_self, decide_true, decide_false, Bool.not_true, Bool.not_false, Bool.false_eq_true, if_true, if_false]
  · have h2 : a.Space < 0 ∨ 2 < a.Space := by omega
    rw [if_pos h2]
    simp only [h1, decide_false, Bool.not_false, if_true]
theorem part_eq (n : Nat) (s : ApiSize) (k : Int) (a : ApiAddr) (h : sizeOk s) : printer_part n s k a = some (partS s k a) := by
  unfold printer_part partS
  rw [CheckAddr_eq n s a h]
  by_cases h1 : k < 0
  · simp [h1]
  · by_cases h2 : 4 ≤ k <;> simp [h1, h2]
def contactsC (s : ApiSize) : List ApiContact → Int
  | [] => 0
  | c :: cs => if partS s c.Kind c.A ≠ 0 then partS s c.Kind c.A else if nameS c.From = false then 6 else if nameS c.To = false then 6 else contactsC s cs
def coilsC (s : ApiSize) : List ApiCoil → Int
  | [] => 0
  | c :: cs => if partS s c.Kind c.A ≠ 0 then partS s c.Kind c.A else if c.A.Space = 0 then 2 else coilsC s cs
def jumpC (r : ApiRung) : Int := if r.Jump = (⟨#[]⟩ : Str) then 0 else if nameS r.Jump = false then 6 else 0
def coilsC2 (s : ApiSize) (r : ApiRung) : Int := if 16 < r.Coils.length then 10 else coilsC s r.Coils
def contactsC2 (s : ApiSize) (r : ApiRung) : Int := if 256 < r.Contacts.length then 10 else contactsC s r.Contacts
def restC (s : ApiSize) (r : ApiRung) : Int := if contactsC2 s r ≠ 0 then contactsC2 s r else if coilsC2 s r ≠ 0 then coilsC2 s r else jumpC r
def rungC (s : ApiSize) (before : List ApiRung) (r : ApiRung) : Int :=
  if r.Label = (⟨#[]⟩ : Str) then restC s r else if nameS r.Label = false then 6 else if (before.any fun x => decide (x.Label = r.Label)) = true then 9 else restC s r
theorem jump_eq (n : Nat) (r : ApiRung) (hn : 17 < n) : printer_rung_J3 n r = some (jumpC r) := by
  unfold printer_rung_J3 jumpC
  rw [lex_IsName_eq n _ hn]
  by_cases h : r.Jump = (⟨#[]⟩ : Str)
  · simp [h]
  · cases hs : nameS r.Jump <;> simp [h, hs]
theorem coils_eq (n : Nat) (s : ApiSize) (r : ApiRung) (hn : 17 < n) (hs : sizeOk s) (hl : r.Coils.length ≤ 1000000000) : ∀ (k i : Nat), i ≤ r.Coils.length → r.Coils.length - i < k →
    printer_rung_L4 n s r k i = some (if coilsC s (r.Coils.drop i) ≠ 0 then coilsC s (r.Coils.drop i) else jumpC r)
  | 0, i, h1, h2 => by omega
  | k + 1, i, h1, h2 => by
    unfold printer_rung_L4
    by_cases hi : i < r.Coils.length
    · obtain ⟨c, hc⟩ := get_ex hi
      have hlt : (i : Int) < r.Coils.length := by omega
      have hw := wrapN (i := i) (by omega)
      rw [drop_cons hc]
      have ih := coils_eq n s r hn hs hl k (i + 1) (by omega) (by omega)
      simp only [atI_nat, hc, hlt, decide_true, if_true, Option.bind_some, hw, part_eq n s _ _ hs, coilsC]
      by_cases hp : partS s c.Kind c.A = 0
      · by_cases h0 : c.A.Space = 0
        · simp [hp, h0]
        · simpa [hp, h0] using ih
      · simp [hp]
    · have hge : ¬ (i : Int) < r.Coils.length := by omega
      simp [hge, List.drop_eq_nil_of_le (show r.Coils.length ≤ i by omega), coilsC, jump_eq n r hn]
theorem contacts_eq (n : Nat) (s : ApiSize) (r : ApiRung) (hn : 17 < n) (hs : sizeOk s) (hl : r.Coils.length ≤ 1000000000) (hln : r.Coils.length < n) (hc : r.Contacts.length ≤ 1000000000) : ∀ (k i : Nat), i ≤ r.Contacts.length → r.Contacts.length - i < k →
    printer_rung_L5 n s r k i = some (if contactsC s (r.Contacts.drop i) ≠ 0 then contactsC s (r.Contacts.drop i) else if coilsC2 s r ≠ 0 then coilsC2 s r else jumpC r)
  | 0, i, h1, h2 => by omega
  | k + 1, i, h1, h2 => by
    unfold printer_rung_L5
    by_cases hi : i < r.Contacts.length
    · obtain ⟨c, hc'⟩ := get_ex hi
      have hlt : (i : Int) < r.Contacts.length := by omega
      have hw := wrapN (i := i) (by omega)
      rw [drop_cons hc']
      have ih := contacts_eq n s r hn hs hl hln hc k (i + 1) (by omega) (by omega)
      simp only [atI_nat, hc', hlt, decide_true, if_true, Option.bind_some, hw, part_eq n s _ _ hs, contactsC, lex_IsName_eq n _ hn]
      by_cases hp : partS s c.Kind c.A = 0
      · by_cases h0 : nameS c.From = true
        · by_cases h1 : nameS c.To = true
          · simpa [hp, h0, h1] using ih
          · simp [hp, h0, h1]
        · simp [hp, h0]
      · simp [hp]
    · have hge : ¬ (i : Int) < r.Contacts.length := by omega
      have h4 := coils_eq n s r hn hs hl n 0 (Nat.zero_le _) (by omega)
      simp only [Int.natCast_zero, List.drop_zero] at h4
      simp only [hge, decide_false, Bool.false_eq_true, if_false, List.drop_eq_nil_of_le (show r.Contacts.length ≤ i by omega), contactsC, ne_eq, not_true]
      unfold printer_rung_J2 coilsC2
      rw [h4]
      by_cases h16 : 16 < r.Coils.length
      · have : (r.Coils.length : Int) > 16 := by omega
        simp [h16, this]
      · have : ¬ ((r.Coils.length : Int) > 16) := by omega
        simp [h16, this]
def fewR (n : Nat) (r : ApiRung) : Prop := r.Coils.length < n ∧ r.Contacts.length < n
theorem rest_eq (n : Nat) (s : ApiSize) (r : ApiRung) (hn : 17 < n) (hb : n ≤ 1000000000) (hs : sizeOk s) (hf : fewR n r) : printer_rung_J1 n s r = some (restC s r) := by
  obtain ⟨hl, hc⟩ := hf
  have h4 := contacts_eq n s r (by omega) hs (by omega) (by omega) (by omega) n 0 (Nat.zero_le _) (by omega)
  simp only [Int.natCast_zero, List.drop_zero] at h4
  unfold printer_rung_J1 restC contactsC2
  rw [h4]
  by_cases h16 : 256 < r.Contacts.length
  · have : (r.Contacts.length : Int) > 256 := by omega
    simp [h16, this]
  · have : ¬ ((r.Contacts.length : Int) > 256) := by omega
    simp [h16, this]
def idxS (p : ApiRung → Bool) : List ApiRung → Nat → Int
  | [], _ => -1
  | x :: xs, i => if p x = true then i else idxS p xs (i + 1)
theorem idxS_any (p : ApiRung → Bool) : ∀ (l : List ApiRung) (i : Nat), decide (idxS p l i ≥ 0) = l.any p
  | [], i => by simp [idxS]
  | x :: xs, i => by
    unfold idxS
    cases h : p x with
    | true => simp [h]
    | false => simpa [h] using idxS_any p xs (i + 1)
theorem idx86 (n : Nat) (s : List ApiRung) (b : ApiRung) (hl : s.length ≤ 1000000000) : ∀ (k i : Nat), i ≤ s.length → s.length - i < k → slices_IndexFunc_api_Rung_c117_L1 n s b k i = some (idxS (fun x => decide (x.Label = b.Label)) (s.drop i) i)
  | 0, i, h1, h2 => by omega
  | k + 1, i, h1, h2 => by
    unfold slices_IndexFunc_api_Rung_c117_L1
    by_cases hi : i < s.length
    · obtain ⟨c, hc⟩ := get_ex hi
      have hlt : (i : Int) < s.length := by omega
      have hw := wrapN (i := i) (by omega)
      rw [drop_cons hc]
      have ih := idx86 n s b hl k (i + 1) (by omega) (by omega)
      simp only [atI_nat, hc, hlt, decide_true, if_true, Option.bind_some, hw, printer_rung_1, idxS]
      by_cases h : c.Label = b.Label
      · simp [h]
      · simpa [h] using ih
    · have hge : ¬ (i : Int) < s.length := by omega
      simp [hge, List.drop_eq_nil_of_le (show s.length ≤ i by omega), idxS]
theorem idx54 (n : Nat) (s : List ApiRung) (b : ApiRung) (hl : s.length ≤ 1000000000) : ∀ (k i : Nat), i ≤ s.length → s.length - i < k → slices_IndexFunc_api_Rung_c90_L1 n s b k i = some (idxS (fun x => decide (x.Label = b.Jump)) (s.drop i) i)
  | 0, i, h1, h2 => by omega
  | k + 1, i, h1, h2 => by
    unfold slices_IndexFunc_api_Rung_c90_L1
    by_cases hi : i < s.length
    · obtain ⟨c, hc⟩ := get_ex hi
      have hlt : (i : Int) < s.length := by omega
      have hw := wrapN (i := i) (by omega)
      rw [drop_cons hc]
      have ih := idx54 n s b hl k (i + 1) (by omega) (by omega)
      simp only [atI_nat, hc, hlt, decide_true, if_true, Option.bind_some, hw, printer_Check_1, idxS]
      by_cases h : c.Label = b.Jump
      · simp [h]
      · simpa [h] using ih
    · have hge : ¬ (i : Int) < s.length := by omega
      simp [hge, List.drop_eq_nil_of_le (show s.length ≤ i by omega), idxS]
theorem contains86 (n : Nat) (s : List ApiRung) (b : ApiRung) (hl : s.length < n) (hn : n ≤ 1000000000) : slices_ContainsFunc_api_Rung_c117 n s b = some (s.any fun x => decide (x.Label = b.Label)) := by
  unfold slices_ContainsFunc_api_Rung_c117 slices_IndexFunc_api_Rung_c117
  have := idx86 n s b (by omega) n 0 (Nat.zero_le _) (by omega)
  simp only [Int.natCast_zero, List.drop_zero] at this
  rw [this, Option.bind_some, idxS_any]
theorem contains54 (n : Nat) (s : List ApiRung) (b : ApiRung) (hl : s.length < n) (hn : n ≤ 1000000000) : slices_ContainsFunc_api_Rung_c90 n s b = some (s.any fun x => decide (x.Label = b.Jump)) := by
  unfold slices_ContainsFunc_api_Rung_c90 slices_IndexFunc_api_Rung_c90
  have := idx54 n s b (by omega) n 0 (Nat.zero_le _) (by omega)
  simp only [Int.natCast_zero, List.drop_zero] at this
  rw [this, Option.bind_some, idxS_any]
theorem rung_eq (n : Nat) (s : ApiSize) (b : List ApiRung) (r : ApiRung) (hn : 17 < n) (hb : n ≤ 1000000000) (hs : sizeOk s) (hf : fewR n r) (hl : b.length < n) : printer_rung n s b r = some (rungC s b r) := by
  unfold printer_rung rungC
  rw [lex_IsName_eq n _ hn, rest_eq n s r hn hb hs hf, contains86 n b r hl hb]
  by_cases h0 : r.Label = (⟨#[]⟩ : Str)
  · simp [h0]
  · by_cases h1 : nameS r.Label = true
    · by_cases h2 : (b.any fun x => decide (x.Label = r.Label)) = true
      · simp only [h0, h1, h2, decide_false, Bool.not_false, Bool.not_true, Bool.false_eq_true, if_true, if_false, Option.bind_some, reduceCtorEq]
      · have h2' : (b.any fun x => decide (x.Label = r.Label)) = false := by simpa using h2
        simp only [h0, h1, h2', decide_false, Bool.not_false, Bool.not_true, Bool.false_eq_true, if_true, if_false, Option.bind_some, reduceCtorEq]
    · have h1' : nameS r.Label = false := by simpa using h1
      simp [h0, h1']
def jumpsC : List ApiRung → Nat → Int × Int
  | [], i => (i, 0)
  | r :: rs, i => if r.Jump ≠ (⟨#[]⟩ : Str) ∧ (rs.any fun x => decide (x.Label = r.Jump)) = false then (i, 15) else jumpsC rs (i + 1)
def rungsC (s : ApiSize) (l : List ApiRung) : List ApiRung → Nat → Option (Int × Int)
  | [], _ => none
  | r :: rs, i => if rungC s (l.take i) r ≠ 0 then some (i, rungC s (l.take i) r) else rungsC s l rs (i + 1)
def sizesOf (l : ApiLadder) : ApiSize := ⟨l.I, l.Q, l.M, 0⟩
def checkS (l : ApiLadder) : Int × Int :=
  if ¬ sizeOk (sizesOf l) then (0, 3) else if 64 < l.Rungs.length then (0, 10) else (rungsC (sizesOf l) l.Rungs l.Rungs 0).getD (jumpsC l.Rungs 0)
theorem checkSize_eq (n : Nat) (l : ApiLadder) : addr_CheckSize n (sizesOf l) = some (if sizeOk (sizesOf l) then 0 else 3) := by
  unfold addr_CheckSize sizesOf sizeOk
  simp only [within_eq, Option.bind_some]
  by_cases h1 : 0 ≤ l.I ∧ l.I ≤ 256
  · by_cases h2 : 0 ≤ l.Q ∧ l.Q ≤ 256
    · by_cases h3 : 0 ≤ l.M ∧ l.M ≤ 256
      · simp only [h1, h2, h3, and_self]; simp
      · simp only [h1, h2, h3, and_false]; simp
    · simp only [h1, h2, and_false, false_and]; simp
  · simp only [h1, false_and]; simp
theorem check_L2 (n : Nat) (l : ApiLadder) (hl : l.Rungs.length < n) (hb : n ≤ 1000000000) : ∀ (k i : Nat), i ≤ l.Rungs.length → l.Rungs.length - i < k → printer_Check_L2 n l k i = some (jumpsC (l.Rungs.drop i) i)
  | 0, i, h1, h2 => by omega
  | k + 1, i, h1, h2 => by
    unfold printer_Check_L2
    by_cases hi : i < l.Rungs.length
    · obtain ⟨r, hr⟩ := get_ex hi
      have hlt : (i : Int) < l.Rungs.length := by omega
      have hw := wrapN (i := i) (by omega)
      rw [drop_cons hr]
      have ih := check_L2 n l hl hb k (i + 1) (by omega) (by omega)
      simp only [atI_nat, hr, hlt, decide_true, if_true, Option.bind_some, hw, ih, jumpsC]
      have hg : 0 ≤ ((i + 1 : Nat) : Int) ∧ ((i + 1 : Nat) : Int) ≤ (l.Rungs.length : Int) ∧ (l.Rungs.length : Int) ≤ (l.Rungs.length : Int) := by omega
      rw [if_pos hg, Int.toNat_natCast, contains54 n _ r (by rw [List.length_drop]; omega) hb]
      simp only [Option.bind_some]
      by_cases hj : r.Jump = (⟨#[]⟩ : Str)
      · simp [hj]
      · by_cases ha : ((l.Rungs.drop (i + 1)).any fun x => decide (x.Label = r.Jump)) = true
        · simp only [hj, ha, decide_false, Bool.not_false, Bool.not_true, Bool.false_eq_true, if_true, if_false, ne_eq, not_false_iff, reduceCtorEq, and_false]
        · have ha' : ((l.Rungs.drop (i + 1)).any fun x => decide (x.Label = r.Jump)) = false := by simpa using ha
          simp only [hj, ha', decide_false, Bool.not_false, Bool.not_true, Bool.false_eq_true, if_true, if_false, ne_eq, not_false_iff, and_self]
    · have hge : ¬ (i : Int) < l.Rungs.length := by omega
      have hie : i = l.Rungs.length := by omega
      simp [hge, List.drop_eq_nil_of_le (show l.Rungs.length ≤ i by omega), jumpsC, hie]
theorem check_L3 (n : Nat) (l : ApiLadder) (hn : 17 < n) (hl : l.Rungs.length < n) (hb : n ≤ 1000000000) (hs : sizeOk (sizesOf l)) (hf : ∀ r ∈ l.Rungs, fewR n r) : ∀ (k i : Nat), i ≤ l.Rungs.length → l.Rungs.length - i < k →
    printer_Check_L3 n l (sizesOf l) k i = some ((rungsC (sizesOf l) l.Rungs (l.Rungs.drop i) i).getD (jumpsC l.Rungs 0))
  | 0, i, h1, h2 => by omega
  | k + 1, i, h1, h2 => by
    unfold printer_Check_L3
    by_cases hi : i < l.Rungs.length
    · obtain ⟨r, hr⟩ := get_ex hi
      have hlt : (i : Int) < l.Rungs.length := by omega
      have hw := wrapN (i := i) (by omega)
      rw [drop_cons hr]
      have ih := check_L3 n l hn hl hb hs hf k (i + 1) (by omega) (by omega)
      simp only [atI_nat, hr, hlt, decide_true, if_true, Option.bind_some, hw, ih, rungsC]
      have hg : 0 ≤ 0 ∧ 0 ≤ (i : Int) ∧ (i : Int) ≤ (l.Rungs.length : Int) := by omega
      rw [if_pos hg, Int.toNat_natCast, rung_eq n _ _ r hn hb hs (hf r (List.mem_of_getElem? hr)) (by rw [List.length_take]; omega)]
      simp only [Option.bind_some]
      by_cases hz : rungC (sizesOf l) (l.Rungs.take i) r = 0
      · simp [hz]
      · simp [hz]
    · have hge : ¬ (i : Int) < l.Rungs.length := by omega
      have := check_L2 n l hl hb n 0 (Nat.zero_le _) (by omega)
      simp only [Int.natCast_zero, List.drop_zero] at this
      simp [hge, List.drop_eq_nil_of_le (show l.Rungs.length ≤ i by omega), rungsC, printer_Check_J1, this]
theorem printer_Check_eq (n : Nat) (l : ApiLadder) (hn : 17 < n) (hl : l.Rungs.length < n) (hb : n ≤ 1000000000) (hf : ∀ r ∈ l.Rungs, fewR n r) : printer_Check n l = some (checkS l) := by
  unfold printer_Check printer_sizes checkS
  simp only [Option.bind_some]
  rw [show (⟨l.I, l.Q, l.M, 0⟩ : ApiSize) = sizesOf l from rfl, checkSize_eq]
  by_cases hs : sizeOk (sizesOf l)
  · have h3 := check_L3 n l hn hl hb hs hf n 0 (Nat.zero_le _) (by omega)
    simp only [Int.natCast_zero, List.drop_zero] at h3
    by_cases h64 : 64 < l.Rungs.length
    · have : (l.Rungs.length : Int) > 64 := by omega
      simp [hs, h64, this]
    · have : ¬ ((l.Rungs.length : Int) > 64) := by omega
      simp [hs, h64, this, h3]
  · simp [hs]
end Go.G.Pc

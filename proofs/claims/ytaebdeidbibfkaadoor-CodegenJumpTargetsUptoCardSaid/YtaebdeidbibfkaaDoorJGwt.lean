/- What is too large among ladders; the example. No law is proved here. -/
import Derived.Test.YtaebdeidbibfkaaDoorJLawM10
set_option linter.unusedSimpArgs false
set_option linter.unusedVariables false
set_option linter.unusedSectionVars false
namespace Go.G
open Go.Av
def bigL (l : ApiLadder) : Prop := l.Rungs.length ≤ 1048576 ∧ ∀ r ∈ l.Rungs, r.Coils.length ≤ 1048576 ∧ r.Contacts.length ≤ 1048576
theorem tl11_3 (p : Int) (K : Int → Int → Option Int) (r : ApiRung) (hs : r.Contacts.length ≤ 1500000) : ∀ (m i : Nat) (a : Int), i ≤ r.Contacts.length → r.Contacts.length - i < m → ∃ a', law11_TooLarge_L3 p K r m a (i : Int) = K (IntKind.i64.wrap (p + 1)) a'
  | 0, i, a, h, hm => absurd hm (Nat.not_lt_zero _)
  | m + 1, i, a, h, hm => by
    rw [law11_TooLarge_L3]
    by_cases hi : i < r.Contacts.length
    · obtain ⟨x, hx⟩ := get_ex hi
      rw [if_pos (by simpa using hi), atI_nat, hx, Option.bind_some, wrapN (by omega)]
      exact tl11_3 p K r hs m (i + 1) _ (by omega) (by omega)
    · rw [if_neg (by simpa using hi)]; exact ⟨a, rfl⟩
theorem tl11_2 (n : Nat) (l : ApiLadder) (hl : l.Rungs.length ≤ 1500000) (hf : ∀ r ∈ l.Rungs, r.Contacts.length < n ∧ r.Contacts.length ≤ 1500000) : ∀ (m i : Nat) (a : Int), i ≤ l.Rungs.length → l.Rungs.length - i < m → ∃ b, law11_TooLarge_L2 n l m (i : Int) a = some b
  | 0, i, a, h, hm => absurd hm (Nat.not_lt_zero _)
  | m + 1, i, a, h, hm => by
    rw [law11_TooLarge_L2]
    by_cases hi : i < l.Rungs.length
    · obtain ⟨x, hx⟩ := get_ex hi
      obtain ⟨f1, f2⟩ := hf x (List.mem_of_getElem? hx)
      rw [if_pos (by simpa using hi), atI_nat, hx, Option.bind_some]
      generalize (IntKind.i64.wrap (a + _)) = z
      obtain ⟨a', q⟩ := tl11_3 (i : Int) (law11_TooLarge_L2 n l m) x f2 n 0 z (by omega) (by omega)
      rw [show ((0 : Nat) : Int) = 0 from rfl] at q
      rw [q, wrapN (by omega)]
      exact tl11_2 n l hl hf m (i + 1) a' (by omega) (by omega)
    · rw [if_neg (by simpa using hi), law11_TooLarge_J1]
      split
      · exact ⟨_, rfl⟩
      · split
        · exact ⟨_, rfl⟩
        · exact ⟨_, rfl⟩
theorem tl17_2 (n : Nat) (l : ApiLadder) (hl : l.Rungs.length ≤ 1500000) (hln : l.Rungs.length < n) (hf : ∀ r ∈ l.Rungs, r.Contacts.length < n ∧ r.Contacts.length ≤ 1500000) : ∀ (m i : Nat) (a : Int), i ≤ l.Rungs.length → l.Rungs.length - i < m → ∃ b, law17_TooLarge_L2 n l m a (i : Int) = some b
  | 0, i, a, h, hm => absurd hm (Nat.not_lt_zero _)
  | m + 1, i, a, h, hm => by
    rw [law17_TooLarge_L2]
    by_cases hi : i < l.Rungs.length
    · obtain ⟨x, hx⟩ := get_ex hi
      rw [if_pos (by simpa using hi), atI_nat, hx, Option.bind_some, wrapN (by omega)]
      split
      · exact ⟨_, rfl⟩
      · exact tl17_2 n l hl hln hf m (i + 1) _ (by omega) (by omega)
    · rw [if_neg (by simpa using hi), law17_TooLarge_J1]
      split
      · exact ⟨_, rfl⟩
      · obtain ⟨b, q⟩ := tl11_2 n l hl hf n 0 0 (by omega) (by omega)
        rw [show ((0 : Nat) : Int) = 0 from rfl] at q
        rw [law11_TooLarge, q]
        exact ⟨b, rfl⟩
theorem tl17 (n : Nat) (hn : 1500000 ≤ n) (l : ApiLadder) (hb : bigL l) : ∃ b, law17_TooLarge n l = some b := by
  obtain ⟨h1, h2⟩ := hb
  exact tl17_2 n l (by omega) (by omega) (fun r hr => by have := h2 r hr; omega) n 0 0 (by omega) (by omega)
set_option maxRecDepth 100000 in
theorem alive17 : law17_alive 2000000 = some true := by decide +kernel
end Go.G

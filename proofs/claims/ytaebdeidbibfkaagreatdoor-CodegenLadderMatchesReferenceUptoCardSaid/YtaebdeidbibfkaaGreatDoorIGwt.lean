/- What is too large among ladders; the example. No law is proved here. -/
import Derived.Test.YtaebdeidbibfkaaGreatDoorILawM10
set_option linter.unusedSimpArgs false
set_option linter.unusedVariables false
set_option linter.unusedSectionVars false
namespace Go.G
open Go.Av
def bigL (l:ApiLadder):Prop:=l.Rungs.length <= 1048576 /\ ∀ r ∈ l.Rungs,r.Coils.length <= 1048576 /\ r.Contacts.length <= 1048576
theorem Zj9 (p:Int) (K:Int -> Int -> Option Int) (r:ApiRung) (hs:r.Contacts.length <= 1500000):∀ (m i:Nat) (a:Int),i <= r.Contacts.length -> r.Contacts.length - i < m -> ∃ a',Z2T p K r m a (i:Int) = K (IntKind.i64.wrap (p + 1)) a'
 | 0,i,a,h,hm=>absurd hm (Nat.not_lt_zero _)
 | m + 1,i,a,h,hm=>by
   rw [Z2T]
   by_cases hi:i < r.Contacts.length
   ·obtain ⟨x,hx⟩:=Z8 hi
    rw [if_pos (by simpa using hi),Z2,hx,Option.bind_some,wrapN (by omega)]
    exact Zj9 p K r hs m (i + 1) _ (by omega) (by omega)
   ·rw [if_neg (by simpa using hi)]; exact ⟨a,rfl⟩
theorem ZiJ (n:Nat) (l:ApiLadder) (hl:l.Rungs.length <= 1500000) (hf:∀ r ∈ l.Rungs,r.Contacts.length < n /\ r.Contacts.length <= 1500000):∀ (m i:Nat) (a:Int),i <= l.Rungs.length -> l.Rungs.length - i < m -> ∃ b,Z1T n l m (i:Int) a = some b
 | 0,i,a,h,hm=>absurd hm (Nat.not_lt_zero _)
 | m + 1,i,a,h,hm=>by
   rw [Z1T]
   by_cases hi:i < l.Rungs.length
   ·obtain ⟨x,hx⟩:=Z8 hi
    obtain ⟨f1,f2⟩:=hf x (List.mem_of_getElem? hx)
    rw [if_pos (by simpa using hi),Z2,hx,Option.bind_some]
    generalize (IntKind.i64.wrap (a + _)) = z
    obtain ⟨a',q⟩:=Zj9 (i:Int) (Z1T n l m) x f2 n 0 z (by omega) (by omega)
    rw [show ((0:Nat):Int) = 0 from rfl] at q
    rw [q,wrapN (by omega)]
    exact ZiJ n l hl hf m (i + 1) a' (by omega) (by omega)
   ·rw [if_neg (by simpa using hi),Z4M]
    split
    ·exact ⟨_,rfl⟩
    ·split
     ·exact ⟨_,rfl⟩
     ·exact ⟨_,rfl⟩
theorem Zjo (n:Nat) (l:ApiLadder) (hl:l.Rungs.length <= 1500000) (hln:l.Rungs.length < n) (hf:∀ r ∈ l.Rungs,r.Contacts.length < n /\ r.Contacts.length <= 1500000):∀ (m i:Nat) (a:Int),i <= l.Rungs.length -> l.Rungs.length - i < m -> ∃ b,Z2V n l m a (i:Int) = some b
 | 0,i,a,h,hm=>absurd hm (Nat.not_lt_zero _)
 | m + 1,i,a,h,hm=>by
   rw [Z2V]
   by_cases hi:i < l.Rungs.length
   ·obtain ⟨x,hx⟩:=Z8 hi
    rw [if_pos (by simpa using hi),Z2,hx,Option.bind_some,wrapN (by omega)]
    split
    ·exact ⟨_,rfl⟩
    ·exact Zjo n l hl hln hf m (i + 1) _ (by omega) (by omega)
   ·rw [if_neg (by simpa using hi),Z4O]
    split
    ·exact ⟨_,rfl⟩
    ·obtain ⟨b,q⟩:=ZiJ n l hl hf n 0 0 (by omega) (by omega)
     rw [show ((0:Nat):Int) = 0 from rfl] at q
     rw [Z6b,q]
     exact ⟨b,rfl⟩
theorem tl17 (n:Nat) (hn:1500000 <= n) (l:ApiLadder) (hb:bigL l):∃ b,Z6e n l = some b:=by
 obtain ⟨h1,h2⟩:=hb
 exact Zjo n l (by omega) (by omega) (fun r hr=>by have:=h2 r hr; omega) n 0 0 (by omega) (by omega)
set_option maxRecDepth 100000 in
theorem ZkP:Z5v 2000000 = some true:=by decide +kernel
end Go.G

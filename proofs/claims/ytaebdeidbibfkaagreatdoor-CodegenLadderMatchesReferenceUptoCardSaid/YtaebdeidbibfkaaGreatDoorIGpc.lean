/- What the check of a ladder answers. No law is proved here. -/
import Derived.Test.YtaebdeidbibfkaaGreatDoorILawM12
import Derived.Laws.RangeAny
set_option linter.unusedSimpArgs false
set_option linter.unusedVariables false
set_option linter.unusedSectionVars false
namespace Go.G.Pc
open Go.Av
def seesS (c:ApiContact):Bool:=decide (c.Kind = 2) || decide (c.Kind = 3)
def edges:List ApiContact -> Nat
 | []=>0
 | c :: cs=>(if seesS c then 1 else 0) + edges cs
theorem ZkI (n:Nat) (c:ApiContact):Z5j n c = some (seesS c):=by
 unfold Z5j seesS
 by_cases h:c.Kind = 2
 ·simp [h]
 ·by_cases h3:c.Kind = 3 <;> simp [h,h3]
theorem edges_le (cs:List ApiContact):edges cs <= cs.length:=by
 induction cs with
 | nil=>exact Nat.le_refl _
 | cons c cs ih=>simp only [edges,List.length_cons]; split <;> omega
theorem Z8M (n:Nat) (r:ApiRung) (hn:r.Contacts.length <= 1000000000):∀ (k i m:Nat),i <= r.Contacts.length -> m <= i -> r.Contacts.length - i < k ->
 Z1w n r k m i = some ((m + edges (r.Contacts.drop i):Nat):Int) /\ Z1F r k m i = some ((m + edges (r.Contacts.drop i):Nat):Int)
 | 0,i,m,h1,h2,h3=>by omega
 | k + 1,i,m,h1,h2,h3=>by
   unfold Z1w Z1F
   by_cases hi:i < r.Contacts.length
   ·obtain ⟨c,hc⟩:=Z8 hi
    have hlt:(i:Int) < r.Contacts.length:=by omega
    have hw:=wrapN (i:=i) (by omega)
    have hw2:=wrapN (i:=m) (by omega)
    rw [Z9 hc]
    simp only [Z2,hc,hlt,decide_true,if_true,Option.bind_some,hw,hw2,edges,ZkI]
    have ih0:=Z8M n r hn k (i + 1) m (by omega) (by omega) (by omega)
    have ih1:=Z8M n r hn k (i + 1) (m + 1) (by omega) (by omega) (by omega)
    have e1:((m + 1 + edges (r.Contacts.drop (i + 1)):Nat):Int) = ((m + (1 + edges (r.Contacts.drop (i + 1))):Nat):Int):=by omega
    have e0:((m + edges (r.Contacts.drop (i + 1)):Nat):Int) = ((m + (0 + edges (r.Contacts.drop (i + 1))):Nat):Int):=by omega
    rw [e1] at ih1; rw [e0] at ih0
    by_cases h2:c.Kind = 2
    ·simp only [seesS,h2]; exact ⟨ih1.1,ih1.2⟩
    ·by_cases h3:c.Kind = 3
     ·simp only [seesS,h3]; exact ⟨ih1.1,ih1.2⟩
     ·have h2':(c.Kind == 2) = false:=by simpa using h2
      have h3':(c.Kind == 3) = false:=by simpa using h3
      simp only [seesS,h2,h3,h2',h3']; exact ⟨ih0.1,ih0.2⟩
   ·have hge:¬ (i:Int) < r.Contacts.length:=by omega
    simp [hge,List.drop_eq_nil_of_le (show r.Contacts.length <= i by omega),edges]
theorem rungeval_EdgeCount_eq (n:Nat) (r:ApiRung) (hn:r.Contacts.length <= 1000000000) (h:r.Contacts.length < n):Z3z n r = some (edges r.Contacts:Int):=by
 unfold Z3z
 have:=(Z8M n r hn n 0 0 (Nat.zero_le _) (Nat.le_refl _) (by omega)).1
 simpa using this
theorem ref16_EdgeCount_eq (n:Nat) (r:ApiRung) (hn:r.Contacts.length <= 1000000000) (h:r.Contacts.length < n):Z4F n r = some (edges r.Contacts:Int):=by
 unfold Z4F
 have:=(Z8M n r hn n 0 0 (Nat.zero_le _) (Nat.le_refl _) (by omega)).2
 simpa using this
def letS (b:Nat):Bool:=(decide (65 <= b) && decide (b <= 90)) || (decide (97 <= b) && decide (b <= 122))
def contS (b:Nat):Bool:=letS b || decide (b = 95) || (decide (48 <= b) && decide (b <= 57))
def nameS (w:Str):Bool:=decide (w ≠ (⟨#[]⟩:Str)) && decide (w.size <= 16) && (match w.data.toList with | []=>true | b :: bs=>letS b.toNat && bs.all fun c=>contS c.toNat)
theorem Zau (n:Nat) (b:Nat):Z77 n (b:Int) = some (letS b):=by
 unfold Z77 letS
 simp only [ge_iff_le]
 rw [show decide ((97:Int) <= (b:Int)) = decide (97 <= b) from decide_eq_decide.2 (by omega),show decide ((65:Int) <= (b:Int)) = decide (65 <= b) from decide_eq_decide.2 (by omega),show decide ((b:Int) <= 122) = decide (b <= 122) from decide_eq_decide.2 (by omega),show decide ((b:Int) <= 90) = decide (b <= 90) from decide_eq_decide.2 (by omega)]
 generalize decide (97 <= b) = p1
 generalize decide (65 <= b) = p2
 generalize decide (b <= 122) = p3
 generalize decide (b <= 90) = p4
 revert p1 p2 p3 p4
 decide
theorem Z8Y (n:Nat) (b:Nat):Z53 n (b:Int) = some (letS b):=by
 unfold Z53 letS
 simp only [ge_iff_le]
 rw [show decide ((97:Int) <= (b:Int)) = decide (97 <= b) from decide_eq_decide.2 (by omega),show decide ((65:Int) <= (b:Int)) = decide (65 <= b) from decide_eq_decide.2 (by omega),show decide ((b:Int) <= 122) = decide (b <= 122) from decide_eq_decide.2 (by omega),show decide ((b:Int) <= 90) = decide (b <= 90) from decide_eq_decide.2 (by omega)]
 generalize decide (97 <= b) = p1
 generalize decide (65 <= b) = p2
 generalize decide (b <= 122) = p3
 generalize decide (b <= 90) = p4
 revert p1 p2 p3 p4
 decide
theorem Z5U (w:Str):w.data.toList.length = w.size:=Array.length_toList
theorem ZkU {w:Str} {i:Nat} {b:UInt8} (hb:w.data.toList[i]? = some b):∃ h:i < w.size,w[i]'h = b:=by
 have h:i < w.data.toList.length:=(List.getElem?_eq_some_iff.1 hb).1
 have h2:i < w.size:=by rw [<- Z5U]; exact h
 refine ⟨h2,?_⟩
 have:=(List.getElem?_eq_some_iff.1 hb).2
 rw [<- this]
 show w.data[i] = _
 exact (Array.getElem_toList _).symm
theorem e95 {b:Nat}:((b:Int) != 95) = !decide (b = 95):=by
 by_cases h:b = 95
 ·simp [h]
 ·have:¬ ((b:Int) = 95):=by omega
  simp [h,this]
theorem e48 {b:Nat}:decide ((b:Int) < 48) = !decide (48 <= b):=by
 rw [<- decide_not]; exact decide_eq_decide.2 (by omega)
theorem e57 {b:Nat}:decide ((b:Int) > 57) = !decide (b <= 57):=by
 rw [<- decide_not]; exact decide_eq_decide.2 (by omega)
theorem ZfN (n:Nat) (w:Str) (k i:Nat) (b:UInt8) (hb:w.data.toList[i]? = some b) :
 Z1L n w (k + 1) i = if (letS b.toNat || (decide (i ≠ 0) && contS b.toNat)) = true then Z1L n w k (i + 1) else some false:=by
 obtain ⟨h,hbb⟩:=ZkU hb
 conv=>lhs; unfold Z1L
 simp only [h,decide_true,if_true]
 by_cases ha:b.toNat < 128
 ·have hd:=decode_ascii w i h (by rw [hbb]; exact ha)
  rw [hbb] at hd
  rw [hd]
  simp only [Zau,Option.bind_some]
  rw [e95,e48,e57]
  have hz:((i:Int) == 0) = decide (i = 0):=by
   by_cases h:i = 0
   ·simp [h]
   ·have:¬ ((i:Int) = 0):=by omega
    simp [h]
  rw [hz]
  unfold contS
  generalize letS b.toNat = q0
  generalize decide (b.toNat = 95) = q1
  generalize decide (48 <= b.toNat) = q2
  generalize decide (b.toNat <= 57) = q3
  by_cases hi:i = 0
  ·simp only [hi,decide_true,ne_eq,not_true,decide_false]
   cases q0 <;> cases q1 <;> cases q2 <;> cases q3 <;> rfl
  ·simp only [hi,decide_false,ne_eq,not_false_iff,decide_true]
   cases q0 <;> cases q1 <;> cases q2 <;> cases q3 <;> rfl
 ·obtain ⟨hd,_⟩:=decode_high w i h (by rw [hbb]; omega)
  generalize hr:(Utf8.decode w i).1 = rr at hd
  have hl:letS rr = false:=by simp [letS]; omega
  have hl2:letS b.toNat = false:=by simp [letS]; omega
  have hc:contS b.toNat = false:=by simp [contS,hl2]; omega
  simp only [Zau,Option.bind_some,hl,hl2,hc,Bool.and_false,Bool.or_false,Bool.not_false,if_true,Bool.false_eq_true,if_false]
  have h1:¬ ((rr:Int) < 48):=by omega
  have h2:(57 < (rr:Int)):=by omega
  have h3:¬ ((rr:Int) = 95):=by omega
  by_cases hi:i = 0
  ·subst hi; simp
  ·simp [hi,h1,h2,h3]
theorem ZgN (n:Nat) (w:Str):∀ (k i:Nat),i <= w.size -> 0 < i -> w.size - i < k -> Z1L n w k i = some ((w.data.toList.drop i).all fun c=>contS c.toNat)
 | 0,i,h1,h2,h3=>by omega
 | k + 1,i,h1,h2,h3=>by
   by_cases hi:i < w.size
   ·obtain ⟨b,hb⟩:=Z8 (l:=w.data.toList) (i:=i) (by rw [Z5U]; exact hi)
    rw [ZfN n w k i b hb,Z9 hb,List.all_cons]
    have ih:=ZgN n w k (i + 1) (by omega) (by omega) (by omega)
    have hne:decide (i ≠ 0) = true:=by simp; omega
    have hlc:letS b.toNat = true -> contS b.toNat = true:=fun h=>by simp [contS,h]
    rw [hne,ih]
    cases hc:contS b.toNat with
    | true=>simp
    | false =>
      cases hl:letS b.toNat with
      | true=>rw [hlc hl] at hc; cases hc
      | false=>simp
   ·unfold Z1L
    have:w.data.toList.drop i = []:=List.drop_eq_nil_of_le (by rw [Z5U]; omega)
    simp [hi,this]
theorem Z83 (n:Nat) (w:Str) (hn:17 < n):Z4B n w = some (nameS w):=by
 unfold Z4B nameS
 by_cases h0:w = (⟨#[]⟩:Str)
 ·simp [h0]
 ·by_cases h1:w.size <= 16
  ·have hs:¬ ((w.size:Int) > 16):=by omega
   simp only [h0,hs,decide_false,Bool.false_eq_true,if_false,ne_eq,not_false_iff,decide_true,h1,Bool.true_and]
   obtain ⟨k,rfl⟩:∃ k,n = k + 1:=⟨n - 1,by omega⟩
   cases hl:w.data.toList with
   | nil =>
     exfalso; apply h0
     have:w.data = #[]:=by
      apply Array.ext'
      simpa using hl
     cases w; simp at this; subst this; rfl
   | cons b bs =>
     have hb:w.data.toList[0]? = some b:=by rw [hl]; rfl
     rw [ZfN (k + 1) w k 0 b hb]
     have hsz:0 < w.size:=by rw [<- Z5U,hl]; simp
     have:=ZgN (k + 1) w k 1 (by omega) (by omega) (by omega)
     rw [hl] at this
     simp only [ne_eq,not_true,decide_false,Bool.false_and,Bool.or_false,Nat.zero_add,List.drop_one,List.tail_cons] at this ⊢
     rw [this]
     cases letS b.toNat <;> simp
  ·have hs:((w.size:Int) > 16):=by omega
   simp [h0,hs,h1]
theorem Zgv (n:Nat) (w:Str) (hw:w.size <= 1000):∀ (k i:Nat),i <= w.size -> w.size - i < k -> Z2j n w k i = some ((w.data.toList.drop i).all fun c=>contS c.toNat)
 | 0,i,h1,h2=>by omega
 | k + 1,i,h1,h2=>by
   unfold Z2j
   by_cases hi:i < w.size
   ·obtain ⟨b,hb⟩:=Z8 (l:=w.data.toList) (i:=i) (by rw [Z5U]; exact hi)
    have hlt:(i:Int) < (w.size:Int):=by omega
    have hwr:=wrapN (i:=i) (by omega)
    have ih:=Zgv n w hw k (i + 1) (by omega) (by omega)
    rw [Z9 hb,List.all_cons]
    simp only [hlt,decide_true,if_true,Z2,hb,Option.bind_some,Z8Y,hwr,ih]
    rw [e95,e48,e57]
    unfold contS
    generalize letS b.toNat = q0
    generalize decide (b.toNat = 95) = q1
    generalize decide (48 <= b.toNat) = q2
    generalize decide (b.toNat <= 57) = q3
    cases q0 <;> cases q1 <;> cases q2 <;> cases q3 <;> simp
   ·have hge:¬ (i:Int) < (w.size:Int):=by omega
    have:w.data.toList.drop i = []:=List.drop_eq_nil_of_le (by rw [Z5U]; omega)
    simp [hge,this]
theorem Z74 (n:Nat) (w:Str) (hn:17 < n):Z3y n w = some (nameS w):=by
 unfold Z3y nameS
 by_cases h0:w = (⟨#[]⟩:Str)
 ·simp [h0]
 ·by_cases h1:w.size <= 16
  ·have hs:¬ ((w.size:Int) > 16):=by omega
   simp only [h0,hs,decide_false,Bool.false_eq_true,if_false,ne_eq,not_false_iff,decide_true,h1,Bool.true_and]
   cases hl:w.data.toList with
   | nil =>
     exfalso; apply h0
     have:w.data = #[]:=by
      apply Array.ext'
      simpa using hl
     cases w; simp at this; subst this; rfl
   | cons b bs =>
     have hb:atI (b :: bs) 0 = some b:=by simp [atI]
     have hsz:0 < w.size:=by rw [<- Z5U,hl]; simp
     have:=Zgv n w (by omega) n 0 (by omega) (by omega)
     rw [hl] at this
     simp only [hb,Option.bind_some,Z8Y]
     cases hlb:letS b.toNat with
     | false=>simp
     | true =>
       have hc:contS b.toNat = true:=by simp [contS,hlb]
       simp only [Int.natCast_zero,List.drop_zero,List.all_cons,hc,Bool.true_and] at this
       simp [this]
  ·have hs:((w.size:Int) > 16):=by omega
   simp [h0,hs,h1]
def Z5p (s:ApiSize) (sp:Int):Int:=if sp = 0 then s.I else if sp = 1 then s.Q else if sp = 2 then s.M else 0
def addrS (s:ApiSize) (a:ApiAddr):Int:=if a.Space < 0 \/ 2 < a.Space then 8 else if a.N < 0 \/ Z5p s a.Space <= a.N then 3 else 0
def partS (s:ApiSize) (k:Int) (a:ApiAddr):Int:=if k < 0 \/ 4 <= k then 8 else addrS s a
def Z3W (s:ApiSize):Prop:=(0 <= s.I /\ s.I <= 256) /\ (0 <= s.Q /\ s.Q <= 256) /\ (0 <= s.M /\ s.M <= 256)
instance (s:ApiSize):Decidable (Z3W s):=by unfold Z3W; infer_instance
theorem ZaY (n:Nat) (x m:Int):Z2G n x m = some (decide (0 <= x /\ x <= m)):=by
 unfold Z2G
 by_cases h:0 <= x <;> simp [h]
theorem Zke (n:Nat) (s:ApiSize) (sp:Int):Z7l n s sp = some (Z5p s sp):=by
 unfold Z7l Z5p
 by_cases h0:sp = 0
 ·simp [h0]
 ·by_cases h1:sp = 1
  ·simp [h1]
  ·by_cases h2:sp = 2 <;> simp [h0,h1,h2]
theorem ZeG (n:Nat) (s:ApiSize) (sp:Int):Z6p n s sp = some (Z5p s sp):=by
 unfold Z6p Z5p
 by_cases h0:sp = 0
 ·simp [h0]
 ·by_cases h1:sp = 1
  ·simp [h1]
  ·by_cases h2:sp = 2 <;> simp [h0,h1,h2]
theorem Zk3 {s:ApiSize} (h:Z3W s) (sp:Int):0 <= Z5p s sp /\ Z5p s sp <= 256:=by
 obtain ⟨h1,h2,h3⟩:=h
 unfold Z5p
 repeat' split
 all_goals omega
theorem ZfR (n:Nat) (s:ApiSize) (a:ApiAddr) (h:Z3W s):Z4X n s a = some (addrS s a):=by
 unfold Z4X addrS
 have hw:=Zk3 h a.Space
 rw [ZaY,Zke]
 simp only [Option.bind_some,ZaY]
 rw [wrapI (by omega) (by omega)]
 by_cases h1:0 <= a.Space /\ a.Space <= 2
 ·have h2:¬ (a.Space < 0 \/ 2 < a.Space):=by omega
  rw [if_neg h2]
  by_cases h3:0 <= a.N /\ a.N <= Z5p s a.Space - 1
  ·have h4:¬ (a.N < 0 \/ Z5p s a.Space <= a.N):=by omega
   simp [h1,h3,h4]
  ·have h4:a.N < 0 \/ Z5p s a.Space <= a.N:=by omega
   rw [if_pos h4]
   simp only [h1,h3,and_self,decide_true,decide_false,Bool.not_true,Bool.not_false,Bool.false_eq_true,if_true,if_false]
 ·have h2:a.Space < 0 \/ 2 < a.Space:=by omega
  rw [if_pos h2]
  simp only [h1,decide_false,Bool.not_false,if_true]
theorem Z7Y (n:Nat) (s:ApiSize) (a:ApiAddr):Z3I n s a = some (addrS s a):=by
 unfold Z3I addrS
 rw [ZeG]
 by_cases h1:a.Space < 0
 ·simp [h1]
 ·by_cases h2:2 < a.Space
  ·simp [h2]
  ·by_cases h3:a.N < 0
   ·simp [h1,h2,h3]
   ·by_cases h4:Z5p s a.Space <= a.N <;> simp [h1,h2,h3,h4]
theorem Zhu (n:Nat) (s:ApiSize) (k:Int) (a:ApiAddr) (h:Z3W s):Z4T n s k a = some (partS s k a):=by
 unfold Z4T partS
 rw [ZfR n s a h]
 by_cases h1:k < 0
 ·simp [h1]
 ·by_cases h2:4 <= k <;> simp [h1,h2]
def contactsC (s:ApiSize):List ApiContact -> Int
 | []=>0
 | c :: cs=>if partS s c.Kind c.A ≠ 0 then partS s c.Kind c.A else if nameS c.From = false then 6 else if nameS c.To = false then 6 else contactsC s cs
def coilsC (s:ApiSize):List ApiCoil -> Int
 | []=>0
 | c :: cs=>if partS s c.Kind c.A ≠ 0 then partS s c.Kind c.A else if c.A.Space = 0 then 2 else coilsC s cs
def jumpC (r:ApiRung):Int:=if r.Jump = (⟨#[]⟩:Str) then 0 else if nameS r.Jump = false then 6 else 0
def coilsC2 (s:ApiSize) (r:ApiRung):Int:=if 16 < r.Coils.length then 10 else coilsC s r.Coils
def contactsC2 (s:ApiSize) (r:ApiRung):Int:=if 256 < r.Contacts.length then 10 else contactsC s r.Contacts
def restC (s:ApiSize) (r:ApiRung):Int:=if contactsC2 s r ≠ 0 then contactsC2 s r else if coilsC2 s r ≠ 0 then coilsC2 s r else jumpC r
def rungC (s:ApiSize) (before:List ApiRung) (r:ApiRung):Int :=
 if r.Label = (⟨#[]⟩:Str) then restC s r else if nameS r.Label = false then 6 else if (before.any fun x=>decide (x.Label = r.Label)) = true then 9 else restC s r
theorem Zkn (n:Nat) (r:ApiRung) (hn:17 < n):Z4A n r = some (jumpC r):=by
 unfold Z4A jumpC
 rw [Z83 n _ hn]
 by_cases h:r.Jump = (⟨#[]⟩:Str)
 ·simp [h]
 ·cases hs:nameS r.Jump <;> simp [h,hs]
theorem Z9Q (n:Nat) (s:ApiSize) (r:ApiRung) (hn:17 < n) (hs:Z3W s) (hl:r.Coils.length <= 1000000000):∀ (k i:Nat),i <= r.Coils.length -> r.Coils.length - i < k ->
 Z3E n s r k i = some (if coilsC s (r.Coils.drop i) ≠ 0 then coilsC s (r.Coils.drop i) else jumpC r)
 | 0,i,h1,h2=>by omega
 | k + 1,i,h1,h2=>by
   unfold Z3E
   by_cases hi:i < r.Coils.length
   ·obtain ⟨c,hc⟩:=Z8 hi
    have hlt:(i:Int) < r.Coils.length:=by omega
    have hw:=wrapN (i:=i) (by omega)
    rw [Z9 hc]
    have ih:=Z9Q n s r hn hs hl k (i + 1) (by omega) (by omega)
    simp only [Z2,hc,hlt,decide_true,if_true,Option.bind_some,hw,Zhu n s _ _ hs,coilsC]
    by_cases hp:partS s c.Kind c.A = 0
    ·by_cases h0:c.A.Space = 0
     ·simp [hp,h0]
     ·simpa [hp,h0] using ih
    ·simp [hp]
   ·have hge:¬ (i:Int) < r.Coils.length:=by omega
    simp [hge,List.drop_eq_nil_of_le (show r.Coils.length <= i by omega),coilsC,Zkn n r hn]
theorem Zci (n:Nat) (s:ApiSize) (r:ApiRung) (hn:17 < n) (hs:Z3W s) (hl:r.Coils.length <= 1000000000) (hln:r.Coils.length < n) (hc:r.Contacts.length <= 1000000000):∀ (k i:Nat),i <= r.Contacts.length -> r.Contacts.length - i < k ->
 Z3C n s r k i = some (if contactsC s (r.Contacts.drop i) ≠ 0 then contactsC s (r.Contacts.drop i) else if coilsC2 s r ≠ 0 then coilsC2 s r else jumpC r)
 | 0,i,h1,h2=>by omega
 | k + 1,i,h1,h2=>by
   unfold Z3C
   by_cases hi:i < r.Contacts.length
   ·obtain ⟨c,hc'⟩:=Z8 hi
    have hlt:(i:Int) < r.Contacts.length:=by omega
    have hw:=wrapN (i:=i) (by omega)
    rw [Z9 hc']
    have ih:=Zci n s r hn hs hl hln hc k (i + 1) (by omega) (by omega)
    simp only [Z2,hc',hlt,decide_true,if_true,Option.bind_some,hw,Zhu n s _ _ hs,contactsC,Z83 n _ hn]
    by_cases hp:partS s c.Kind c.A = 0
    ·by_cases h0:nameS c.From = true
     ·by_cases h1:nameS c.To = true
      ·simpa [hp,h0,h1] using ih
      ·simp [hp,h0,h1]
     ·simp [hp,h0]
    ·simp [hp]
   ·have hge:¬ (i:Int) < r.Contacts.length:=by omega
    have h4:=Z9Q n s r hn hs hl n 0 (Nat.zero_le _) (by omega)
    simp only [Int.natCast_zero,List.drop_zero] at h4
    simp only [hge,decide_false,Bool.false_eq_true,if_false,List.drop_eq_nil_of_le (show r.Contacts.length <= i by omega),contactsC,ne_eq,not_true]
    unfold Z5D coilsC2
    rw [h4]
    by_cases h16:16 < r.Coils.length
    ·have:(r.Coils.length:Int) > 16:=by omega
     simp [h16,this]
    ·have:¬ ((r.Coils.length:Int) > 16):=by omega
     simp [h16,this]
def fewR (n:Nat) (r:ApiRung):Prop:=r.Coils.length < n /\ r.Contacts.length < n
theorem ZkO (n:Nat) (s:ApiSize) (r:ApiRung) (hn:17 < n) (hb:n <= 1000000000) (hs:Z3W s) (hf:fewR n r):Z3B n s r = some (restC s r):=by
 obtain ⟨hl,hc⟩:=hf
 have h4:=Zci n s r (by omega) hs (by omega) (by omega) (by omega) n 0 (Nat.zero_le _) (by omega)
 simp only [Int.natCast_zero,List.drop_zero] at h4
 unfold Z3B restC contactsC2
 rw [h4]
 by_cases h16:256 < r.Contacts.length
 ·have:(r.Contacts.length:Int) > 256:=by omega
  simp [h16,this]
 ·have:¬ ((r.Contacts.length:Int) > 256):=by omega
  simp [h16,this]
def idxS (p:ApiRung -> Bool):List ApiRung -> Nat -> Int
 | [],_=>-1
 | x :: xs,i=>if p x = true then i else idxS p xs (i + 1)
theorem ZcZ (p:ApiRung -> Bool):∀ (l:List ApiRung) (i:Nat),decide (idxS p l i >= 0) = l.any p
 | [],i=>by simp [idxS]
 | x :: xs,i=>by
   unfold idxS
   cases h:p x with
   | true=>simp [h]
   | false=>simpa [h] using ZcZ p xs (i + 1)
theorem idx86 (n:Nat) (s:List ApiRung) (b:ApiRung) (hl:s.length <= 1000000000):∀ (k i:Nat),i <= s.length -> s.length - i < k -> ZO n s b k i = some (idxS (fun x=>decide (x.Label = b.Label)) (s.drop i) i)
 | 0,i,h1,h2=>by omega
 | k + 1,i,h1,h2=>by
   unfold ZO
   by_cases hi:i < s.length
   ·obtain ⟨c,hc⟩:=Z8 hi
    have hlt:(i:Int) < s.length:=by omega
    have hw:=wrapN (i:=i) (by omega)
    rw [Z9 hc]
    have ih:=idx86 n s b hl k (i + 1) (by omega) (by omega)
    simp only [Z2,hc,hlt,decide_true,if_true,Option.bind_some,hw,Z64,idxS]
    by_cases h:c.Label = b.Label
    ·simp [h]
    ·simpa [h] using ih
   ·have hge:¬ (i:Int) < s.length:=by omega
    simp [hge,List.drop_eq_nil_of_le (show s.length <= i by omega),idxS]
theorem idx54 (n:Nat) (s:List ApiRung) (b:ApiRung) (hl:s.length <= 1000000000):∀ (k i:Nat),i <= s.length -> s.length - i < k -> ZP n s b k i = some (idxS (fun x=>decide (x.Label = b.Jump)) (s.drop i) i)
 | 0,i,h1,h2=>by omega
 | k + 1,i,h1,h2=>by
   unfold ZP
   by_cases hi:i < s.length
   ·obtain ⟨c,hc⟩:=Z8 hi
    have hlt:(i:Int) < s.length:=by omega
    have hw:=wrapN (i:=i) (by omega)
    rw [Z9 hc]
    have ih:=idx54 n s b hl k (i + 1) (by omega) (by omega)
    simp only [Z2,hc,hlt,decide_true,if_true,Option.bind_some,hw,Z5H,idxS]
    by_cases h:c.Label = b.Jump
    ·simp [h]
    ·simpa [h] using ih
   ·have hge:¬ (i:Int) < s.length:=by omega
    simp [hge,List.drop_eq_nil_of_le (show s.length <= i by omega),idxS]
theorem Zi9 (n:Nat) (s:List ApiRung) (b:ApiRung) (hl:s.length < n) (hn:n <= 1000000000):Z1a n s b = some (s.any fun x=>decide (x.Label = b.Label)):=by
 unfold Z1a Z23
 have:=idx86 n s b (by omega) n 0 (Nat.zero_le _) (by omega)
 simp only [Int.natCast_zero,List.drop_zero] at this
 rw [this,Option.bind_some,ZcZ]
theorem Zio (n:Nat) (s:List ApiRung) (b:ApiRung) (hl:s.length < n) (hn:n <= 1000000000):Z18 n s b = some (s.any fun x=>decide (x.Label = b.Jump)):=by
 unfold Z18 Z22
 have:=idx54 n s b (by omega) n 0 (Nat.zero_le _) (by omega)
 simp only [Int.natCast_zero,List.drop_zero] at this
 rw [this,Option.bind_some,ZcZ]
theorem ZkD (n:Nat) (s:ApiSize) (b:List ApiRung) (r:ApiRung) (hn:17 < n) (hb:n <= 1000000000) (hs:Z3W s) (hf:fewR n r) (hl:b.length < n):Z5O n s b r = some (rungC s b r):=by
 unfold Z5O rungC
 rw [Z83 n _ hn,ZkO n s r hn hb hs hf,Zi9 n b r hl hb]
 by_cases h0:r.Label = (⟨#[]⟩:Str)
 ·simp [h0]
 ·by_cases h1:nameS r.Label = true
  ·by_cases h2:(b.any fun x=>decide (x.Label = r.Label)) = true
   ·simp only [h0,h1,h2,decide_false,Bool.not_false,Bool.not_true,Bool.false_eq_true,if_true,if_false,Option.bind_some,reduceCtorEq]
   ·have h2':(b.any fun x=>decide (x.Label = r.Label)) = false:=by simpa using h2
    simp only [h0,h1,h2',decide_false,Bool.not_false,Bool.not_true,Bool.false_eq_true,if_true,if_false,Option.bind_some,reduceCtorEq]
  ·have h1':nameS r.Label = false:=by simpa using h1
   simp [h0,h1']
def Z6j:List ApiRung -> Nat -> Int × Int
 | [],i=>(i,0)
 | r :: rs,i=>if r.Jump ≠ (⟨#[]⟩:Str) /\ (rs.any fun x=>decide (x.Label = r.Jump)) = false then (i,15) else Z6j rs (i + 1)
def rungsC (s:ApiSize) (l:List ApiRung):List ApiRung -> Nat -> Option (Int × Int)
 | [],_=>none
 | r :: rs,i=>if rungC s (l.take i) r ≠ 0 then some (i,rungC s (l.take i) r) else rungsC s l rs (i + 1)
def sizesOf (l:ApiLadder):ApiSize:=⟨l.I,l.Q,l.M,0⟩
def checkS (l:ApiLadder):Int × Int :=
 if ¬ Z3W (sizesOf l) then (0,3) else if 64 < l.Rungs.length then (0,10) else (rungsC (sizesOf l) l.Rungs l.Rungs 0).getD (Z6j l.Rungs 0)
theorem ZgJ (n:Nat) (l:ApiLadder):Z4Y n (sizesOf l) = some (if Z3W (sizesOf l) then 0 else 3):=by
 unfold Z4Y sizesOf Z3W
 simp only [ZaY,Option.bind_some]
 by_cases h1:0 <= l.I /\ l.I <= 256
 ·by_cases h2:0 <= l.Q /\ l.Q <= 256
  ·by_cases h3:0 <= l.M /\ l.M <= 256
   ·simp only [h1,h2,h3,and_self]; simp
   ·simp only [h1,h2,h3,and_false]; simp
  ·simp only [h1,h2,and_false,false_and]; simp
 ·simp only [h1,false_and]; simp
theorem Zgc (n:Nat) (l:ApiLadder) (hl:l.Rungs.length < n) (hb:n <= 1000000000):∀ (k i:Nat),i <= l.Rungs.length -> l.Rungs.length - i < k -> Z2x n l k i = some (Z6j (l.Rungs.drop i) i)
 | 0,i,h1,h2=>by omega
 | k + 1,i,h1,h2=>by
   unfold Z2x
   by_cases hi:i < l.Rungs.length
   ·obtain ⟨r,hr⟩:=Z8 hi
    have hlt:(i:Int) < l.Rungs.length:=by omega
    have hw:=wrapN (i:=i) (by omega)
    rw [Z9 hr]
    have ih:=Zgc n l hl hb k (i + 1) (by omega) (by omega)
    simp only [Z2,hr,hlt,decide_true,if_true,Option.bind_some,hw,ih,Z6j]
    have hg:0 <= ((i + 1:Nat):Int) /\ ((i + 1:Nat):Int) <= (l.Rungs.length:Int) /\ (l.Rungs.length:Int) <= (l.Rungs.length:Int):=by omega
    rw [if_pos hg,Int.toNat_natCast,Zio n _ r (by rw [List.length_drop]; omega) hb]
    simp only [Option.bind_some]
    by_cases hj:r.Jump = (⟨#[]⟩:Str)
    ·simp [hj]
    ·by_cases ha:((l.Rungs.drop (i + 1)).any fun x=>decide (x.Label = r.Jump)) = true
     ·simp only [hj,ha,decide_false,Bool.not_false,Bool.not_true,Bool.false_eq_true,if_true,if_false,ne_eq,not_false_iff,reduceCtorEq,and_false]
     ·have ha':((l.Rungs.drop (i + 1)).any fun x=>decide (x.Label = r.Jump)) = false:=by simpa using ha
      simp only [hj,ha',decide_false,Bool.not_false,Bool.not_true,Bool.false_eq_true,if_true,if_false,ne_eq,not_false_iff,and_self]
   ·have hge:¬ (i:Int) < l.Rungs.length:=by omega
    have hie:i = l.Rungs.length:=by omega
    simp [hge,List.drop_eq_nil_of_le (show l.Rungs.length <= i by omega),Z6j,hie]
theorem ZfK (n:Nat) (l:ApiLadder) (hn:17 < n) (hl:l.Rungs.length < n) (hb:n <= 1000000000) (hs:Z3W (sizesOf l)) (hf:∀ r ∈ l.Rungs,fewR n r):∀ (k i:Nat),i <= l.Rungs.length -> l.Rungs.length - i < k ->
 Z37 n l (sizesOf l) k i = some ((rungsC (sizesOf l) l.Rungs (l.Rungs.drop i) i).getD (Z6j l.Rungs 0))
 | 0,i,h1,h2=>by omega
 | k + 1,i,h1,h2=>by
   unfold Z37
   by_cases hi:i < l.Rungs.length
   ·obtain ⟨r,hr⟩:=Z8 hi
    have hlt:(i:Int) < l.Rungs.length:=by omega
    have hw:=wrapN (i:=i) (by omega)
    rw [Z9 hr]
    have ih:=ZfK n l hn hl hb hs hf k (i + 1) (by omega) (by omega)
    simp only [Z2,hr,hlt,decide_true,if_true,Option.bind_some,hw,ih,rungsC]
    have hg:0 <= 0 /\ 0 <= (i:Int) /\ (i:Int) <= (l.Rungs.length:Int):=by omega
    rw [if_pos hg,Int.toNat_natCast,ZkD n _ _ r hn hb hs (hf r (List.mem_of_getElem? hr)) (by rw [List.length_take]; omega)]
    simp only [Option.bind_some]
    by_cases hz:rungC (sizesOf l) (l.Rungs.take i) r = 0
    ·simp [hz]
    ·simp [hz]
   ·have hge:¬ (i:Int) < l.Rungs.length:=by omega
    have:=Zgc n l hl hb n 0 (Nat.zero_le _) (by omega)
    simp only [Int.natCast_zero,List.drop_zero] at this
    simp [hge,List.drop_eq_nil_of_le (show l.Rungs.length <= i by omega),rungsC,Z5c,this]
theorem printer_Check_eq (n:Nat) (l:ApiLadder) (hn:17 < n) (hl:l.Rungs.length < n) (hb:n <= 1000000000) (hf:∀ r ∈ l.Rungs,fewR n r):Z5o n l = some (checkS l):=by
 unfold Z5o Z6y checkS
 simp only [Option.bind_some]
 rw [show (⟨l.I,l.Q,l.M,0⟩:ApiSize) = sizesOf l from rfl,ZgJ]
 by_cases hs:Z3W (sizesOf l)
 ·have h3:=ZfK n l hn hl hb hs hf n 0 (Nat.zero_le _) (by omega)
  simp only [Int.natCast_zero,List.drop_zero] at h3
  by_cases h64:64 < l.Rungs.length
  ·have:(l.Rungs.length:Int) > 64:=by omega
   simp [hs,h64,this]
  ·have:¬ ((l.Rungs.length:Int) > 64):=by omega
   simp [hs,h64,this,h3]
 ·simp [hs]
theorem ZeW (n:Nat) (s:ApiSize) (r:ApiRung) (hl:r.Coils.length <= 1000000000):∀ (k i:Nat),i <= r.Coils.length -> r.Coils.length - i < k -> Z47 n s r k i = some (coilsC s (r.Coils.drop i))
 | 0,i,h1,h2=>by omega
 | k + 1,i,h1,h2=>by
   unfold Z47
   by_cases hi:i < r.Coils.length
   ·obtain ⟨c,hc⟩:=Z8 hi
    have hlt:(i:Int) < r.Coils.length:=by omega
    have hw:=wrapN (i:=i) (by omega)
    rw [Z9 hc]
    have ih:=ZeW n s r hl k (i + 1) (by omega) (by omega)
    simp only [Z2,hc,hlt,decide_true,if_true,Option.bind_some,hw,Z7Y,coilsC,partS,ih]
    by_cases hk0:c.Kind < 0
    ·simp [hk0]
    ·by_cases hk4:3 < c.Kind
     ·have:4 <= c.Kind:=by omega
      simp [hk0,hk4,this]
     ·have:¬ 4 <= c.Kind:=by omega
      by_cases hp:addrS s c.A = 0
      ·by_cases h0:c.A.Space = 0 <;> simp [hk0,hk4,this,hp,h0]
      ·simp [hk0,hk4,this,hp]
   ·have hge:¬ (i:Int) < r.Coils.length:=by omega
    simp [hge,List.drop_eq_nil_of_le (show r.Coils.length <= i by omega),coilsC]
theorem ZaT (n:Nat) (s:ApiSize) (r:ApiRung) (hn:17 < n) (hl:r.Contacts.length <= 1000000000):∀ (k i:Nat),i <= r.Contacts.length -> r.Contacts.length - i < k -> Z2X n s r k i = some (contactsC s (r.Contacts.drop i))
 | 0,i,h1,h2=>by omega
 | k + 1,i,h1,h2=>by
   unfold Z2X
   by_cases hi:i < r.Contacts.length
   ·obtain ⟨c,hc⟩:=Z8 hi
    have hlt:(i:Int) < r.Contacts.length:=by omega
    have hw:=wrapN (i:=i) (by omega)
    rw [Z9 hc]
    have ih:=ZaT n s r hn hl k (i + 1) (by omega) (by omega)
    simp only [Z2,hc,hlt,decide_true,if_true,Option.bind_some,hw,Z7Y,contactsC,partS,ih,Z74 n _ hn]
    by_cases hk0:c.Kind < 0
    ·simp [hk0]
    ·by_cases hk4:3 < c.Kind
     ·have:4 <= c.Kind:=by omega
      simp [hk0,hk4,this]
     ·have:¬ 4 <= c.Kind:=by omega
      by_cases hp:addrS s c.A = 0
      ·by_cases h0:nameS c.From = true
       ·by_cases h1:nameS c.To = true <;> simp [hk0,hk4,this,hp,h0,h1]
       ·simp [hk0,hk4,this,hp,h0]
      ·simp [hk0,hk4,this,hp]
   ·have hge:¬ (i:Int) < r.Contacts.length:=by omega
    simp [hge,List.drop_eq_nil_of_le (show r.Contacts.length <= i by omega),contactsC]
theorem ZfX (n:Nat) (l:ApiLadder) (r:ApiRung) (hn:17 < n) (hb:n <= 1000000000) (hf:fewR n r):Z3R n l r = some (restC (sizesOf l) r):=by
 obtain ⟨hl,hc⟩:=hf
 have h1:=ZaT n (sizesOf l) r hn (by omega) n 0 (Nat.zero_le _) (by omega)
 have h2:=ZeW n (sizesOf l) r (by omega) n 0 (Nat.zero_le _) (by omega)
 simp only [Int.natCast_zero,List.drop_zero] at h1 h2
 have e1:Z50 n (sizesOf l) r = some (contactsC2 (sizesOf l) r):=by
  unfold Z50 contactsC2
  rw [h1]
  by_cases h16:256 < r.Contacts.length
  ·have:(r.Contacts.length:Int) > 256:=by omega
   simp [h16,this]
  ·have:¬ ((r.Contacts.length:Int) > 256):=by omega
   simp [h16,this]
 have e2:Z6r n (sizesOf l) r = some (coilsC2 (sizesOf l) r):=by
  unfold Z6r coilsC2
  rw [h2]
  by_cases h16:16 < r.Coils.length
  ·have:(r.Coils.length:Int) > 16:=by omega
   simp [h16,this]
  ·have:¬ ((r.Coils.length:Int) > 16):=by omega
   simp [h16,this]
 have e3:∀ v,Z4u n r v = some (if v ≠ 0 then v else jumpC r):=by
  intro v
  unfold Z4u jumpC
  rw [Z74 n _ hn]
  by_cases hv:v = 0
  ·by_cases hj:r.Jump = (⟨#[]⟩:Str)
   ·simp [hv,hj]
   ·by_cases hs:nameS r.Jump = true
    ·simp [hv,hj,hs]
    ·simp [hv,hj,hs]
  ·simp [hv]
 unfold Z3R restC
 rw [show (⟨l.I,l.Q,l.M,0⟩:ApiSize) = sizesOf l from rfl,e1]
 simp only [Option.bind_some,e2,e3]
 by_cases hz:contactsC2 (sizesOf l) r = 0
 ·simp [hz]
 ·simp [hz]
theorem ZiR (n:Nat) (l:ApiLadder) (r:ApiRung) (j:Nat) (hj:j <= l.Rungs.length) (hb:n <= 1000000000) (hl:l.Rungs.length < n) (v:Int) (hv:Z3R n l r = some v):∀ (k i:Nat),i <= j -> j - i < k ->
 Z4v n l j r k i = some (if (((l.Rungs.take j).drop i).any fun x=>decide (x.Label = r.Label)) = true then 9 else v)
 | 0,i,h1,h2=>by omega
 | k + 1,i,h1,h2=>by
   unfold Z4v
   by_cases hi:i < j
   ·obtain ⟨c,hc⟩:=Z8 (l:=l.Rungs) (i:=i) (by omega)
    have hc2:(l.Rungs.take j)[i]? = some c:=by rw [List.getElem?_take,if_pos hi]; exact hc
    have hlt:(i:Int) < (j:Int):=by omega
    have hw:=wrapN (i:=i) (by omega)
    rw [Z9 hc2]
    have ih:=ZiR n l r j hj hb hl v hv k (i + 1) (by omega) (by omega)
    simp only [Z2,hc,hlt,decide_true,if_true,Option.bind_some,hw,ih,List.any_cons]
    by_cases h:c.Label = r.Label
    ·simp [h]
    ·simp [h]
   ·have hge:¬ (i:Int) < (j:Int):=by omega
    have:(l.Rungs.take j).drop i = []:=List.drop_eq_nil_of_le (by rw [List.length_take]; omega)
    simp [hge,this,hv]
theorem Zft (n:Nat) (l:ApiLadder) (i:Nat) (r:ApiRung) (hr:l.Rungs[i]? = some r) (hn:17 < n) (hb:n <= 1000000000) (hl:l.Rungs.length < n) (hf:fewR n r):Z70 n l i = some (rungC (sizesOf l) (l.Rungs.take i) r):=by
 have hi:=Zd hr
 have h3:=ZiR n l r i (by omega) hb hl _ (ZfX n l r hn hb hf) n 0 (Nat.zero_le _) (by omega)
 simp only [Int.natCast_zero,List.drop_zero] at h3
 unfold Z70 rungC
 simp only [Z2,hr,Option.bind_some,Z74 n _ hn,ZfX n l r hn hb hf,h3]
 by_cases h0:r.Label = (⟨#[]⟩:Str)
 ·simp [h0]
 ·by_cases h1:nameS r.Label = true
  ·simp [h0,h1]
  ·simp [h0,h1]
theorem Zd9 (l:ApiLadder) (lb:Str) (hl:l.Rungs.length <= 1000000000):∀ (k i:Nat),i <= l.Rungs.length -> l.Rungs.length - i < k -> Z3K l lb k i = some ((l.Rungs.drop i).any fun x=>decide (x.Label = lb))
 | 0,i,h1,h2=>by omega
 | k + 1,i,h1,h2=>by
   unfold Z3K
   by_cases hi:i < l.Rungs.length
   ·obtain ⟨c,hc⟩:=Z8 hi
    have hlt:(i:Int) < l.Rungs.length:=by omega
    have hw:=wrapN (i:=i) (by omega)
    rw [Z9 hc]
    have ih:=Zd9 l lb hl k (i + 1) (by omega) (by omega)
    simp only [Z2,hc,hlt,decide_true,if_true,Option.bind_some,hw,ih,List.any_cons]
    by_cases h:c.Label = lb
    ·simp [h]
    ·simp [h]
   ·have hge:¬ (i:Int) < l.Rungs.length:=by omega
    simp [hge,List.drop_eq_nil_of_le (show l.Rungs.length <= i by omega)]
theorem ZbF (n:Nat) (l:ApiLadder) (hl:l.Rungs.length < n) (hb:n <= 1000000000):∀ (k i:Nat),i <= l.Rungs.length -> l.Rungs.length - i < k -> Z3d n l k i = some (Z6j (l.Rungs.drop i) i)
 | 0,i,h1,h2=>by omega
 | k + 1,i,h1,h2=>by
   unfold Z3d
   by_cases hi:i < l.Rungs.length
   ·obtain ⟨r,hr⟩:=Z8 hi
    have hlt:(i:Int) < l.Rungs.length:=by omega
    have hw:=wrapN (i:=i) (by omega)
    rw [Z9 hr]
    have ih:=ZbF n l hl hb k (i + 1) (by omega) (by omega)
    have hbh:=Zd9 l r.Jump (by omega) n (i + 1) (by omega) (by omega)
    simp only [Z2,hr,hlt,decide_true,if_true,Option.bind_some,hw,ih,Z6j,Z6Z,hbh]
    by_cases hj:r.Jump = (⟨#[]⟩:Str)
    ·simp [hj]
    ·by_cases ha:((l.Rungs.drop (i + 1)).any fun x=>decide (x.Label = r.Jump)) = true
     ·simp only [hj,ha,decide_false,Bool.not_false,Bool.not_true,Bool.false_eq_true,if_true,if_false,ne_eq,not_false_iff,reduceCtorEq,and_false]
     ·have ha':((l.Rungs.drop (i + 1)).any fun x=>decide (x.Label = r.Jump)) = false:=by simpa using ha
      simp only [hj,ha',decide_false,Bool.not_false,Bool.not_true,Bool.false_eq_true,if_true,if_false,ne_eq,not_false_iff,and_self]
   ·have hge:¬ (i:Int) < l.Rungs.length:=by omega
    have hie:i = l.Rungs.length:=by omega
    simp [hge,List.drop_eq_nil_of_le (show l.Rungs.length <= i by omega),Z6j,hie]
theorem Zbg (n:Nat) (l:ApiLadder) (hn:17 < n) (hl:l.Rungs.length < n) (hb:n <= 1000000000) (hf:∀ r ∈ l.Rungs,fewR n r):∀ (k i:Nat),i <= l.Rungs.length -> l.Rungs.length - i < k ->
 Z41 n l k i = some ((rungsC (sizesOf l) l.Rungs (l.Rungs.drop i) i).getD (Z6j l.Rungs 0))
 | 0,i,h1,h2=>by omega
 | k + 1,i,h1,h2=>by
   unfold Z41
   by_cases hi:i < l.Rungs.length
   ·obtain ⟨r,hr⟩:=Z8 hi
    have hlt:(i:Int) < l.Rungs.length:=by omega
    have hw:=wrapN (i:=i) (by omega)
    rw [Z9 hr]
    have ih:=Zbg n l hn hl hb hf k (i + 1) (by omega) (by omega)
    rw [Zft n l i r hr hn hb hl (hf r (List.mem_of_getElem? hr))]
    simp only [hlt,decide_true,if_true,Option.bind_some,hw,ih,rungsC]
    by_cases hz:rungC (sizesOf l) (l.Rungs.take i) r = 0
    ·simp [hz]
    ·simp [hz]
   ·have hge:¬ (i:Int) < l.Rungs.length:=by omega
    have:=ZbF n l hl hb n 0 (Nat.zero_le _) (by omega)
    simp only [Int.natCast_zero,List.drop_zero] at this
    simp [hge,List.drop_eq_nil_of_le (show l.Rungs.length <= i by omega),rungsC,Z6d,this]
theorem ref11_Check_eq (n:Nat) (l:ApiLadder) (hn:17 < n) (hl:l.Rungs.length < n) (hb:n <= 1000000000) (hf:∀ r ∈ l.Rungs,fewR n r):Z6v n l = some (checkS l):=by
 have h3:=Zbg n l hn hl hb hf n 0 (Nat.zero_le _) (by omega)
 simp only [Int.natCast_zero,List.drop_zero] at h3
 unfold Z6v checkS
 rw [h3]
 by_cases hs:Z3W (sizesOf l)
 ·obtain ⟨⟨a1,a2⟩,⟨a3,a4⟩,a5,a6⟩:=id hs
  simp only [sizesOf] at a1 a2 a3 a4 a5 a6
  have b1:¬ l.I < 0:=by omega
  have b2:¬ l.I > 256:=by omega
  have b3:¬ l.Q < 0:=by omega
  have b4:¬ l.Q > 256:=by omega
  have b5:¬ l.M < 0:=by omega
  have b6:¬ l.M > 256:=by omega
  simp only [b1,b2,b3,b4,b5,b6,decide_false,Bool.false_eq_true,if_false,hs,not_true]
  by_cases h64:64 < l.Rungs.length
  ·have:(l.Rungs.length:Int) > 64:=by omega
   simp [h64,this]
  ·have:¬ ((l.Rungs.length:Int) > 64):=by omega
   simp [h64,this]
 ·rw [if_pos hs]
  unfold Z3W at hs
  simp only [sizesOf] at hs
  repeat' split
  all_goals first | rfl | skip
  all_goals exfalso; simp at *; omega
end Go.G.Pc

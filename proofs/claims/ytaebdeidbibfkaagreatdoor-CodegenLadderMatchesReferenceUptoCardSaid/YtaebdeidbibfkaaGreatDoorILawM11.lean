/- What the graphs' functions compute: they end, and an order of the nodes is one. No law is proved here. -/
import Derived.Test.YtaebdeidbibfkaaGreatDoorILawM10
set_option linter.unusedSimpArgs false
set_option linter.unusedVariables false
set_option linter.unusedSectionVars false
namespace Go.G
open Go.Av
def hasM (m:List (Str × Bool)) (k:Str):Bool:=(mGet m k).getD false
theorem Zd0 (k:Str):hasM [] k = false:=rfl
theorem Z1X (m:List (Str × Bool)) (k x:Str):hasM (mPut m k true) x = (decide (x = k) || hasM m x):=by
 induction m with
 | nil =>
   by_cases h:x = k <;> simp [hasM,mPut,mGet,h]
 | cons p m ih =>
   simp only [hasM] at ih ⊢
   rw [mPut]
   by_cases h:k = p.1
   ·rw [if_pos (by simpa using h),mGet,mGet]
    by_cases h2:x = k
    ·simp [h2]
    ·have:¬ x = p.1:=fun e=>h2 (e.trans h.symm)
     simp [h2,this]
   ·rw [if_neg (by simpa using h),mGet,mGet]
    by_cases h2:x = p.1
    ·have h5:¬ p.1 = k:=fun e=>h e.symm
     simp [h2,h5]
    ·rw [if_neg (by simpa using h2),if_neg (by simpa using h2)]; exact ih
structure NInv (l:List Str) (m:List (Str × Bool)):Prop where
 has:∀ x,hasM m x = true ↔ x ∈ l
 nd:l.Nodup
theorem Z98 (p:Int) (R:Int -> List Str -> List (Str × Bool) -> Option (List Str)) (pr:List Str) (hp:pr.length <= 1000):∀ (q k:Nat) (l:List Str) (m:List (Str × Bool)),NInv l m -> k <= pr.length -> pr.length - k < q -> l.length + (pr.length - k) <= 100000000 ->
 ∃ l' m',NInv l' m' /\ (∀ x ∈ l,x ∈ l') /\ (∀ x ∈ pr.drop k,x ∈ l') /\ l'.length <= l.length + (pr.length - k) /\ Z1h p R pr q (k:Int) l m = R (IntKind.i64.wrap (p + 1)) l' m'
 | 0,k,l,m,_,h,hm,_=>absurd hm (Nat.not_lt_zero _)
 | q + 1,k,l,m,hi,h,hm,hl=>by
   rw [Z1h]
   by_cases hk:k < pr.length
   ·obtain ⟨x,hx⟩:=Z8 hk
    rw [if_pos (by simpa using hk),Z2,hx,Option.bind_some,Z9 hx]
    cases hh:hasM m x with
    | true =>
      have hh':(mGet m x).getD false = true:=hh
      rw [hh',if_neg (by simp),wrapN (by omega)]
      obtain ⟨l',m',a1,a2,a3,a4,a5⟩:=Z98 p R pr hp q (k + 1) l m hi (by omega) (by omega) (by omega)
      refine ⟨l',m',a1,a2,fun y hy=>?_,by omega,a5⟩
      rcases List.mem_cons.1 hy with rfl | hy
      ·exact a2 _ ((hi.has _).1 hh)
      ·exact a3 y hy
    | false =>
      have hh':(mGet m x).getD false = false:=hh
      have hx':x ∉ l:=fun e=>by rw [(hi.has x).2 e] at hh; cases hh
      rw [hh',if_pos (by simp),if_pos (by simp; omega),Option.bind_some,wrapN (by omega)]
      have hi':NInv (l ++ [x]) (mPut m x true):=⟨fun y=>by
       rw [Z1X,Bool.or_eq_true,hi.has,decide_eq_true_eq,List.mem_append,List.mem_singleton]
       exact Or.comm,by
       rw [List.nodup_append]
       exact ⟨hi.nd,by simp,fun a ha b hb e=>by rw [List.mem_singleton] at hb; subst hb; subst e; exact hx' ha⟩⟩
      obtain ⟨l',m',a1,a2,a3,a4,a5⟩:=Z98 p R pr hp q (k + 1) (l ++ [x]) (mPut m x true) hi' (by omega) (by omega) (by simp; omega)
      refine ⟨l',m',a1,fun y hy=>a2 y (by simp [hy]),fun y hy=>?_,by rw [List.length_append,List.length_singleton] at a4; omega,a5⟩
      rcases List.mem_cons.1 hy with rfl | hy
      ·exact a2 _ (by simp)
      ·exact a3 y hy
   ·rw [if_neg (by simpa using hk)]
    refine ⟨l,m,hi,fun _ h=>h,?_,by omega,rfl⟩
    rw [List.drop_eq_nil_of_le (by omega)]
    exact fun x hx=>by cases hx
theorem Zcq (n:Nat) (r:ApiRung) (hn:2 < n) (hs:r.Contacts.length <= 1000000):∀ (q i:Nat) (l:List Str) (m:List (Str × Bool)),NInv l m -> i <= r.Contacts.length -> r.Contacts.length - i < q -> l.length <= 2 + 2 * i ->
 ∃ l',ZU n r q (i:Int) l m = some l' /\ l'.Nodup /\ (∀ x ∈ l,x ∈ l') /\ (∀ c ∈ r.Contacts.drop i,c.From ∈ l' /\ c.To ∈ l') /\ l'.length <= 2 + 2 * r.Contacts.length
 | 0,i,l,m,_,h,hm,_=>absurd hm (Nat.not_lt_zero _)
 | q + 1,i,l,m,hi,h,hm,hl=>by
   rw [ZU]
   by_cases hk:i < r.Contacts.length
   ·obtain ⟨c,hc⟩:=Z8 hk
    rw [if_pos (by simpa using hk),Z2,hc,Option.bind_some,Option.bind_some]
    obtain ⟨l1,m1,a1,a2,a3,a4,a5⟩:=Z98 (i:Int) (ZU n r q) [c.From,c.To] (by simp) n 0 l m hi (by simp) (by simpa using hn) (by simp; omega)
    rw [show (0:Int) = ((0:Nat):Int) from rfl,a5,wrapN (by omega)]
    obtain ⟨l',b1,b2,b3,b4,b5⟩:=Zcq n r hn hs q (i + 1) l1 m1 a1 (by omega) (by omega) (by simp at a4; omega)
    refine ⟨l',b1,b2,fun x hx=>b3 x (a2 x hx),fun d hd=>?_,b5⟩
    rw [Z9 hc] at hd
    rcases List.mem_cons.1 hd with rfl | hd
    ·exact ⟨b3 _ (a3 _ (by simp)),b3 _ (a3 _ (by simp))⟩
    ·exact b4 d hd
   ·rw [if_neg (by simpa using hk)]
    refine ⟨l,rfl,hi.nd,fun _ h=>h,?_,by omega⟩
    rw [List.drop_eq_nil_of_le (by omega)]
    exact fun c hc=>by cases hc
structure IsNodes (r:ApiRung) (l:List Str):Prop where
 nd:l.Nodup
 L:strLL ∈ l
 R:strRR ∈ l
 ends:∀ c ∈ r.Contacts,c.From ∈ l /\ c.To ∈ l
 len:l.length <= 2 + 2 * r.Contacts.length
theorem Z8C (n:Nat) (r:ApiRung) (hn:2 * r.Contacts.length + 10 <= n) (hs:r.Contacts.length <= 1000000):∃ l,Z1R n r = some l /\ IsNodes r l:=by
 rw [Z1R,Option.bind_some,show (0:Int) = ((0:Nat):Int) from rfl]
 obtain ⟨l',b1,b2,b3,b4,b5⟩:=Zcq n r (by omega) hs n 0 [(⟨#[76]⟩:Str),(⟨#[82]⟩:Str)] (mPut (mPut [] (⟨#[76]⟩:Str) true) (⟨#[82]⟩:Str) true) ⟨fun x=>by
  rw [Z1X,Z1X,Zd0]
  simp only [Bool.or_eq_true,decide_eq_true_eq,List.mem_cons,List.not_mem_nil,or_false,Bool.false_eq_true]
  exact Or.comm,by decide⟩ (by omega) (by omega) (by simp)
 exact ⟨l',b1,b2,b3 _ (by simp [strLL]),b3 _ (by simp [strRR]),fun c hc=>b4 c (by simpa using hc),b5⟩
theorem Z6I (n:Nat) (r:ApiRung) (b:Str) (hs:r.Contacts.length <= 1000000):∀ (q i:Nat) (acc:List Int),i <= r.Contacts.length -> r.Contacts.length - i < q -> acc.length <= i ->
 ∃ l,ZL n r b q (i:Int) acc = some l /\ l.length <= r.Contacts.length /\ (∀ j ∈ acc,j ∈ l) /\ (∀ j ∈ l,j ∈ acc \/ ∃ (k:Nat) (c:ApiContact),j = (k:Int) /\ r.Contacts[k]? = some c /\ c.To = b) /\ (∀ (k:Nat) (c:ApiContact),i <= k -> r.Contacts[k]? = some c -> c.To = b -> (k:Int) ∈ l)
 | 0,i,acc,h,hm,_=>absurd hm (Nat.not_lt_zero _)
 | q + 1,i,acc,h,hm,ha=>by
   rw [ZL]
   by_cases hk:i < r.Contacts.length
   ·obtain ⟨c,hc⟩:=Z8 hk
    rw [if_pos (by simpa using hk),Z2,hc,Option.bind_some,Z4f,Option.bind_some]
    by_cases ht:c.To = b
    ·rw [if_pos (by simpa using ht),if_pos (by simp; omega),Option.bind_some,wrapN (by omega)]
     obtain ⟨l,a1,a2,a3,a4,a5⟩:=Z6I n r b hs q (i + 1) (acc ++ [(i:Int)]) (by omega) (by omega) (by simp; omega)
     refine ⟨l,a1,a2,fun j hj=>a3 j (by simp [hj]),fun j hj=>?_,fun k d hk hd hb=>?_⟩
     ·rcases a4 j hj with h | h
      ·rcases List.mem_append.1 h with h | h
       ·exact .inl h
       ·rw [List.mem_singleton] at h; exact .inr ⟨i,c,h,hc,ht⟩
      ·exact .inr h
     ·rcases Nat.lt_or_ge i k with h | h
      ·exact a5 k d h hd hb
      ·have:k = i:=by omega
       subst this; exact a3 _ (by simp)
    ·rw [if_neg (by simpa using ht),wrapN (by omega)]
     obtain ⟨l,a1,a2,a3,a4,a5⟩:=Z6I n r b hs q (i + 1) acc (by omega) (by omega) (by omega)
     refine ⟨l,a1,a2,a3,a4,fun k d hk hd hb=>?_⟩
     rcases Nat.lt_or_ge i k with h | h
     ·exact a5 k d h hd hb
     ·have:k = i:=by omega
      subst this; rw [hc] at hd; cases hd; exact absurd hb ht
   ·rw [if_neg (by simpa using hk)]
    exact ⟨acc,rfl,by omega,fun _ h=>h,fun _ h=>.inl h,fun k c hk hc _=>by have:=Zd hc; omega⟩
theorem Z7J (n:Nat) (r:ApiRung) (b:Str) (hs:r.Contacts.length <= 1000000) (hn:r.Contacts.length < n):∃ l,Z2a n r b = some l /\ l.length <= r.Contacts.length /\
 (∀ j ∈ l,∃ (k:Nat) (c:ApiContact),j = (k:Int) /\ r.Contacts[k]? = some c /\ c.To = b) /\ (∀ (k:Nat) (c:ApiContact),r.Contacts[k]? = some c -> c.To = b -> (k:Int) ∈ l):=by
 obtain ⟨l,a1,a2,a3,a4,a5⟩:=Z6I n r b hs n 0 [] (by omega) (by omega) (by simp)
 refine ⟨l,?_,a2,fun j hj=>?_,fun k c hc hb=>a5 k c (Nat.zero_le _) hc hb⟩
 ·rw [Z2a,Z3r,show (0:Int) = ((0:Nat):Int) from rfl,a1]; rfl
 ·rcases a4 j hj with h | h
  ·cases h
  ·exact h
theorem Z6H (n:Nat) (r:ApiRung) (b:Str) (hs:r.Contacts.length <= 1000000):∀ (q i:Nat) (acc:List Int),i <= r.Contacts.length -> r.Contacts.length - i < q -> acc.length <= i ->
 ∃ l,ZN n r b q (i:Int) acc = some l /\ l.length <= r.Contacts.length /\ (∀ j ∈ acc,j ∈ l) /\ (∀ j ∈ l,j ∈ acc \/ ∃ (k:Nat) (c:ApiContact),j = (k:Int) /\ r.Contacts[k]? = some c /\ c.From = b) /\ (∀ (k:Nat) (c:ApiContact),i <= k -> r.Contacts[k]? = some c -> c.From = b -> (k:Int) ∈ l)
 | 0,i,acc,h,hm,_=>absurd hm (Nat.not_lt_zero _)
 | q + 1,i,acc,h,hm,ha=>by
   rw [ZN]
   by_cases hk:i < r.Contacts.length
   ·obtain ⟨c,hc⟩:=Z8 hk
    rw [if_pos (by simpa using hk),Z2,hc,Option.bind_some,Z4m,Option.bind_some]
    by_cases ht:c.From = b
    ·rw [if_pos (by simpa using ht),if_pos (by simp; omega),Option.bind_some,wrapN (by omega)]
     obtain ⟨l,a1,a2,a3,a4,a5⟩:=Z6H n r b hs q (i + 1) (acc ++ [(i:Int)]) (by omega) (by omega) (by simp; omega)
     refine ⟨l,a1,a2,fun j hj=>a3 j (by simp [hj]),fun j hj=>?_,fun k d hk hd hb=>?_⟩
     ·rcases a4 j hj with h | h
      ·rcases List.mem_append.1 h with h | h
       ·exact .inl h
       ·rw [List.mem_singleton] at h; exact .inr ⟨i,c,h,hc,ht⟩
      ·exact .inr h
     ·rcases Nat.lt_or_ge i k with h | h
      ·exact a5 k d h hd hb
      ·have:k = i:=by omega
       subst this; exact a3 _ (by simp)
    ·rw [if_neg (by simpa using ht),wrapN (by omega)]
     obtain ⟨l,a1,a2,a3,a4,a5⟩:=Z6H n r b hs q (i + 1) acc (by omega) (by omega) (by omega)
     refine ⟨l,a1,a2,a3,a4,fun k d hk hd hb=>?_⟩
     rcases Nat.lt_or_ge i k with h | h
     ·exact a5 k d h hd hb
     ·have:k = i:=by omega
      subst this; rw [hc] at hd; cases hd; exact absurd hb ht
   ·rw [if_neg (by simpa using hk)]
    exact ⟨acc,rfl,by omega,fun _ h=>h,fun _ h=>.inl h,fun k c hk hc _=>by have:=Zd hc; omega⟩
theorem Zcx (n:Nat) (r:ApiRung) (b:Str) (hs:r.Contacts.length <= 1000000) (hn:r.Contacts.length < n):∃ l,Z2A n r b = some l /\ l.length <= r.Contacts.length /\
 (∀ j ∈ l,∃ (k:Nat) (c:ApiContact),j = (k:Int) /\ r.Contacts[k]? = some c /\ c.From = b) /\ (∀ (k:Nat) (c:ApiContact),r.Contacts[k]? = some c -> c.From = b -> (k:Int) ∈ l):=by
 obtain ⟨l,a1,a2,a3,a4,a5⟩:=Z6H n r b hs n 0 [] (by omega) (by omega) (by simp)
 refine ⟨l,?_,a2,fun j hj=>?_,fun k c hc hb=>a5 k c (Nat.zero_le _) hc hb⟩
 ·rw [Z2A,Z3x,show (0:Int) = ((0:Nat):Int) from rfl,a1]; rfl
 ·rcases a4 j hj with h | h
  ·cases h
  ·exact h
theorem Zbi (n:Nat) (s:List Int) (m:List (Str × Bool)) (r:ApiRung) (hs:s.length <= 1000000) (hr:∀ j ∈ s,∃ (k:Nat) (c:ApiContact),j = (k:Int) /\ r.Contacts[k]? = some c):∀ (q i:Nat),i <= s.length -> s.length - i < q ->
 ∃ t:Int,Zz n s m r q (i:Int) = some t /\ (t = -1 /\ (∀ (k:Nat) (c:ApiContact),(k:Int) ∈ s.drop i -> r.Contacts[k]? = some c -> hasM m c.From = true) \/ 0 <= t)
 | 0,i,h,hm=>absurd hm (Nat.not_lt_zero _)
 | q + 1,i,h,hm=>by
   rw [Zz]
   by_cases hi:i < s.length
   ·obtain ⟨x,hx⟩:=Z8 hi
    obtain ⟨k,c,rfl,hc⟩:=hr x (List.mem_of_getElem? hx)
    rw [if_pos (by simpa using hi),Z2,hx,Option.bind_some,Z3u,Z2,hc,Option.bind_some,Option.bind_some]
    cases hh:hasM m c.From with
    | true =>
      have hh':(mGet m c.From).getD false = true:=hh
      rw [hh',if_neg (by simp),wrapN (by omega)]
      obtain ⟨t,a1,a2⟩:=Zbi n s m r hs hr q (i + 1) (by omega) (by omega)
      refine ⟨t,a1,a2.imp (fun ⟨e,a⟩=>⟨e,fun k' c' hk' hc'=>?_⟩) id⟩
      rw [Z9 hx] at hk'
      rcases List.mem_cons.1 hk' with e | hk'
      ·have:k' = k:=by omega
       subst this; rw [hc] at hc'; cases hc'; exact hh
      ·exact a k' c' hk' hc'
    | false =>
      have hh':(mGet m c.From).getD false = false:=hh
      rw [hh',if_pos (by simp)]
      exact ⟨_,rfl,.inr (by omega)⟩
   ·rw [if_neg (by simpa using hi)]
    exact ⟨_,rfl,.inl ⟨rfl,fun k c hk _=>by rw [List.drop_eq_nil_of_le (by omega)] at hk; cases hk⟩⟩
theorem ZiS (n:Nat) (x:Str) (r:ApiRung) (m:List (Str × Bool)) (hs:r.Contacts.length <= 1000000) (hn:r.Contacts.length < n):∃ b,Z2w n x r m = some b /\ (b = true -> ∀ c ∈ r.Contacts,c.To = x -> hasM m c.From = true):=by
 obtain ⟨l,a1,a2,a3,a4⟩:=Z7J n r x hs hn
 obtain ⟨t,b1,b2⟩:=Zbi n l m r (by omega) (fun j hj=>by obtain ⟨k,c,e1,e2,_⟩:=a3 j hj; exact ⟨k,c,e1,e2⟩) n 0 (by omega) (by omega)
 rw [Z2w,a1,Option.bind_some,Z1y,Z21,show (0:Int) = ((0:Nat):Int) from rfl,b1]
 refine ⟨_,rfl,fun hb c hc hx=>?_⟩
 rcases b2 with ⟨rfl,h⟩ | h
 ·obtain ⟨k,hk⟩:=List.getElem?_of_mem hc
  exact h k c (by simpa using a4 k c hk hx) hk
 ·simp at hb; omega
theorem Zab (n:Nat) (l:List Str) (r:ApiRung) (m:List (Str × Bool)) (hl:l.length <= 100000000) (hs:r.Contacts.length <= 1000000) (hn:r.Contacts.length < n):∀ (q i:Nat),i <= l.length -> l.length - i < q ->
 ∃ t:Int,Zo n l r m q (i:Int) = some t /\ (t = -1 \/ ∃ (k:Nat) (x:Str),t = (k:Int) /\ l[k]? = some x /\ ∀ c ∈ r.Contacts,c.To = x -> hasM m c.From = true)
 | 0,i,h,hm=>absurd hm (Nat.not_lt_zero _)
 | q + 1,i,h,hm=>by
   rw [Zo]
   by_cases hi:i < l.length
   ·obtain ⟨x,hx⟩:=Z8 hi
    obtain ⟨b,b1,b2⟩:=ZiS n x r m hs hn
    rw [if_pos (by simpa using hi),Z2,hx,Option.bind_some,b1,Option.bind_some]
    cases b with
    | true =>
      rw [if_pos rfl]
      exact ⟨_,rfl,.inr ⟨i,x,rfl,hx,b2 rfl⟩⟩
    | false =>
      rw [if_neg (by simp),wrapN (by omega)]
      exact Zab n l r m hl hs hn q (i + 1) (by omega) (by omega)
   ·rw [if_neg (by simpa using hi)]
    exact ⟨_,rfl,.inl rfl⟩
theorem ZhJ (n:Nat) (l:List Str) (i:Nat) (hi:i < l.length):Z2f n (i:Int) ((i + 1:Nat):Int) l = some (l.eraseIdx i):=by
 rw [Z2f]
 simp only [Int.toNat_natCast]
 have e:(l.take i ++ (l.drop (i + 1) ++ l.drop (i + (l.length - (i + 1))))).length = l.length + 0:=by simp; omega
 rw [if_pos (by omega),if_neg (by simp; omega),if_pos (by omega),if_pos (by omega),if_pos (by omega),Option.bind_some,if_pos (by omega),if_pos (by omega)]
 rw [<- List.append_assoc,List.take_append_of_le_length (by simp; omega),List.take_of_length_le (by simp; omega),List.eraseIdx_eq_take_drop_succ]
theorem ZeM (n:Nat) (r:ApiRung) (hs:r.Contacts.length <= 1000000) (hn:2 * r.Contacts.length + 10 <= n):∀ (q:Nat) (left:List Str) (m:List (Str × Bool)) (l:List Str) (rank:Str -> Nat),
 left.length < q -> left.length + l.length <= 2 + 2 * r.Contacts.length -> (∀ x,hasM m x = true ↔ x ∈ l) -> left.Nodup -> (∀ x ∈ left,x ∉ l) -> (∀ x ∈ l,rank x < l.length) -> (∀ c ∈ r.Contacts,c.To ∈ left \/ c.To ∈ l) ->
 (∀ c ∈ r.Contacts,c.To ∈ l -> c.From ∈ l /\ rank c.From < rank c.To) ->
 ∃ s e,ZT n r q left m l = some (s,e) /\ (e = 0 -> ∃ rank:Str -> Nat,∀ c ∈ r.Contacts,rank c.From < rank c.To)
 | 0,left,m,l,rank,hm,_,_,_,_,_,_,_=>absurd hm (Nat.not_lt_zero _)
 | q + 1,left,m,l,rank,hm,hl,h1,h2,h3,h4,h5,h6=>by
   rw [ZT]
   by_cases hk:0 < left.length
   ·rw [if_pos (by simpa using hk)]
    obtain ⟨t,a1,a2⟩:=Zab n left r m (by omega) hs (by omega) n 0 (by omega) (by omega)
    rw [Z1n,show (0:Int) = ((0:Nat):Int) from rfl,a1,Option.bind_some]
    rcases a2 with rfl | ⟨k,x,rfl,hx,hin⟩
    ·rw [if_pos (by decide)]
     exact ⟨_,_,rfl,fun e=>by cases e⟩
    ·have hkl:=Zd hx
     have hxl:=List.mem_of_getElem? hx
     have hx3:=h3 x hxl
     rw [if_neg (by simp),Z2,hx,Option.bind_some,if_pos (by simp; omega),Option.bind_some,wrapN (by omega),ZhJ n left k hkl,Option.bind_some]
     have hsub:∀ y ∈ left.eraseIdx k,y ∈ left:=fun y hy=>(List.eraseIdx_sublist left k).subset hy
     have hp:=Z3o hx
     have hnd:x ∉ left.eraseIdx k:=fun h=>by
      have:=hp.nodup_iff.1 h2
      rw [List.nodup_cons] at this
      exact this.1 h
     refine ZeM n r hs hn q (left.eraseIdx k) (mPut m x true) (l ++ [x]) (fun y=>if y = x then l.length else rank y) ?_ ?_ ?_ ?_ ?_ ?_ ?_ ?_
     ·rw [List.length_eraseIdx_of_lt hkl]; omega
     ·rw [List.length_eraseIdx_of_lt hkl,List.length_append,List.length_singleton]; omega
     ·intro y
      rw [Z1X,Bool.or_eq_true,h1,decide_eq_true_eq,List.mem_append,List.mem_singleton]
      exact Or.comm
     ·exact h2.sublist (List.eraseIdx_sublist left k)
     ·intro y hy hyl
      rcases List.mem_append.1 hyl with h | h
      ·exact h3 y (hsub y hy) h
      ·rw [List.mem_singleton] at h; subst h; exact hnd hy
     ·intro y hy
      rw [List.length_append,List.length_singleton]
      split
      ·omega
      ·rename_i hne
       rcases List.mem_append.1 hy with h | h
       ·have:=h4 y h; omega
       ·rw [List.mem_singleton] at h; exact absurd h hne
     ·intro c hc
      rcases h5 c hc with h | h
      ·rcases List.mem_cons.1 (hp.subset h) with h | h
       ·exact .inr (by simp [h])
       ·exact .inl h
      ·exact .inr (by simp [h])
     ·intro c hc hcl
      by_cases hct:c.To = x
      ·have hf:c.From ∈ l:=(h1 _).1 (hin c hc hct)
       have hne:c.From ≠ x:=fun e=>hx3 (e ▸ hf)
       refine ⟨by simp [hf],?_⟩
       rw [if_neg hne,if_pos hct]
       exact h4 _ hf
      ·have hcl':c.To ∈ l:=by
        rcases List.mem_append.1 hcl with h | h
        ·exact h
        ·rw [List.mem_singleton] at h; exact absurd h hct
       obtain ⟨q1,q2⟩:=h6 c hc hcl'
       have hne:c.From ≠ x:=fun e=>hx3 (e ▸ q1)
       refine ⟨by simp [q1],?_⟩
       rw [if_neg hne,if_neg hct]
       exact q2
   ·rw [if_neg (by simpa using hk)]
    have:left = []:=List.length_eq_zero_iff.1 (by omega)
    subst this
    refine ⟨_,_,rfl,fun _=>⟨rank,fun c hc=>?_⟩⟩
    rcases h5 c hc with h | h
    ·cases h
    ·exact (h6 c hc h).2
theorem Zhf (n:Nat) (r:ApiRung) (hs:r.Contacts.length <= 1000000) (hn:2 * r.Contacts.length + 10 <= n):∃ s e,Z2F n r = some (s,e) /\ (e = 0 -> ∃ rank:Str -> Nat,∀ c ∈ r.Contacts,rank c.From < rank c.To):=by
 obtain ⟨l,a1,a2⟩:=Z8C n r hn hs
 rw [Z2F,a1,Option.bind_some]
 have:=a2.len
 exact ZeM n r hs hn n l [] [] (fun _=>0) (by omega) (by simpa using this) (fun x=>by simp [Zd0]) a2.nd (fun x _ h=>by cases h) (fun x h=>by cases h) (fun c hc=>.inl (a2.ends c hc).2) (fun c _ h=>by cases h)
theorem Ze0 (l:List Str) (x:Str) (hl:l.length <= 100000000):∀ (q i:Nat),i <= l.length -> l.length - i < q -> ∃ t:Int,Z1P l x q (i:Int) = some t /\ ((decide (t >= 0)) = decide (x ∈ l.drop i))
 | 0,i,h,hm=>absurd hm (Nat.not_lt_zero _)
 | q + 1,i,h,hm=>by
   rw [Z1P]
   by_cases hi:i < l.length
   ·obtain ⟨y,hy⟩:=Z8 hi
    rw [if_pos (by simpa using hi),Z2,hy,Option.bind_some,Z9 hy]
    by_cases hx:x = y
    ·rw [if_pos (by simpa using hx)]
     exact ⟨_,rfl,by simp [hx]⟩
    ·rw [if_neg (by simpa using hx),wrapN (by omega)]
     obtain ⟨t,a1,a2⟩:=Ze0 l x hl q (i + 1) (by omega) (by omega)
     exact ⟨t,a1,by rw [a2]; simp [hx]⟩
   ·rw [if_neg (by simpa using hi)]
    exact ⟨_,rfl,by rw [List.drop_eq_nil_of_le (by omega)]; simp⟩
theorem Z4P (n:Nat) (l:List Str) (x:Str) (hl:l.length <= 100000000) (hn:l.length < n):Z16 n l x = some (decide (x ∈ l)):=by
 obtain ⟨t,a1,a2⟩:=Ze0 l x hl n 0 (by omega) (by omega)
 rw [Z16,Z4o,show (0:Int) = ((0:Nat):Int) from rfl,a1,Option.bind_some,List.drop_zero] at *
 exact congrArg some a2
def lack (ns:List Str) (m:List (Str × Bool)):Nat:=(ns.filter fun x=>!hasM m x).length
theorem ZhF (ns:List Str) (m:List (Str × Bool)):lack ns m <= ns.length:=List.length_filter_le _ _
theorem Z8N {m m':List (Str × Bool)} (h:∀ x,hasM m x = true -> hasM m' x = true):∀ ns:List Str,lack ns m' <= lack ns m
 | []=>by simp [lack]
 | x :: ns=>by
   have ih:=Z8N h ns
   simp only [lack,List.filter_cons] at ih ⊢
   cases h1:hasM m x with
   | true=>rw [h x h1]; simpa using ih
   | false =>
     cases h2:hasM m' x with
     | true=>simp; omega
     | false=>simpa using ih
theorem ZcO {m:List (Str × Bool)} {x:Str} (hx:hasM m x = false):∀ {ns:List Str},x ∈ ns -> lack ns (mPut m x true) + 1 <= lack ns m
 | y :: ns,h=>by
   have mono:=Z8N (m:=m) (m':=mPut m x true) (fun z hz=>by rw [Z1X,hz]; simp) ns
   by_cases e:y = x
   ·subst e
    simp only [lack,List.filter_cons] at mono ⊢
    rw [Z1X,hx]
    simp; omega
   ·have hm:x ∈ ns:=by
     rcases List.mem_cons.1 h with h | h
     ·exact absurd h.symm e
     ·exact h
    have ih:=ZcO hx hm
    simp only [lack,List.filter_cons] at ih ⊢
    rw [Z1X]
    cases hasM m y <;> simp [e] <;> omega
theorem Z7q (r:ApiRung) (s:List Int) (hs:s.length <= 1000000) (hr:∀ j ∈ s,∃ (k:Nat) (c:ApiContact),j = (k:Int) /\ r.Contacts[k]? = some c):∀ (q i:Nat) (acc:List Str),i <= s.length -> s.length - i < q -> acc.length = i -> (∀ x ∈ acc,∃ c ∈ r.Contacts,x = c.To) ->
 ∃ l,ZW r s q (i:Int) acc = some l /\ l.length = s.length /\ ∀ x ∈ l,∃ c ∈ r.Contacts,x = c.To
 | 0,i,acc,h,hm,_,_=>absurd hm (Nat.not_lt_zero _)
 | q + 1,i,acc,h,hm,ha,hx0=>by
   rw [ZW]
   by_cases hi:i < s.length
   ·obtain ⟨x,hx⟩:=Z8 hi
    obtain ⟨k,c,rfl,hc⟩:=hr x (List.mem_of_getElem? hx)
    rw [if_pos (by simpa using hi),Z2,hx,Option.bind_some,Z2,hc,Option.bind_some,if_pos (by simp; omega),Option.bind_some,wrapN (by omega)]
    exact Z7q r s hs hr q (i + 1) _ (by omega) (by omega) (by simp; omega) (fun x hx=>by
     rcases List.mem_append.1 hx with h | h
     ·exact hx0 x h
     ·rw [List.mem_singleton] at h; exact ⟨c,List.mem_of_getElem? hc,h⟩)
   ·rw [if_neg (by simpa using hi)]
    exact ⟨acc,rfl,by omega,hx0⟩
theorem Z9s (n:Nat) (r:ApiRung) (x:Str) (hs:r.Contacts.length <= 1000000) (hn:r.Contacts.length < n):∃ l,Z2i n x r = some l /\ l.length <= r.Contacts.length /\ ∀ y ∈ l,∃ c ∈ r.Contacts,y = c.To:=by
 obtain ⟨s,a1,a2,a3,_⟩:=Zcx n r x hs hn
 rw [Z2i,a1,Option.bind_some,show (0:Int) = ((0:Nat):Int) from rfl]
 obtain ⟨l,b1,b2,b3⟩:=Z7q r s (by omega) (fun j hj=>by obtain ⟨k,c,e1,e2,_⟩:=a3 j hj; exact ⟨k,c,e1,e2⟩) n 0 [] (by omega) (by omega) rfl (fun x h=>by cases h)
 exact ⟨l,b1,by omega,b3⟩
theorem Z7s (r:ApiRung) (ns:List Str) (s:List Str) (slf:Str -> List (Str × Bool) -> ApiRung -> Option (List (Str × Bool))) (hs:s.length <= 1000000) (hin:∀ x ∈ s,x ∈ ns) (M:Nat)
 (hf:∀ x ∈ ns,∀ m,lack ns m <= M -> ∃ m',slf x m r = some m' /\ ∀ y,hasM m y = true -> hasM m' y = true):∀ (q i:Nat) (m:List (Str × Bool)),i <= s.length -> s.length - i < q -> lack ns m <= M ->
 ∃ m',ZD r s slf q m (i:Int) = some m' /\ ∀ y,hasM m y = true -> hasM m' y = true
 | 0,i,m,h,hm,_=>absurd hm (Nat.not_lt_zero _)
 | q + 1,i,m,h,hm,hM=>by
   rw [ZD]
   by_cases hi:i < s.length
   ·obtain ⟨x,hx⟩:=Z8 hi
    obtain ⟨m1,a1,a2⟩:=hf x (hin x (List.mem_of_getElem? hx)) m hM
    rw [if_pos (by simpa using hi),Z2,hx,Option.bind_some,a1,Option.bind_some,wrapN (by omega)]
    obtain ⟨m',b1,b2⟩:=Z7s r ns s slf hs hin M hf q (i + 1) m1 (by omega) (by omega) (Nat.le_trans (Z8N a2 ns) hM)
    exact ⟨m',b1,fun y hy=>b2 y (a2 y hy)⟩
   ·rw [if_neg (by simpa using hi)]
    exact ⟨m,rfl,fun _ h=>h⟩
theorem Z9z (r:ApiRung) (ns:List Str) (hns:IsNodes r ns) (hs:r.Contacts.length <= 1000000):∀ (n:Nat) (x:Str) (m:List (Str × Bool)),x ∈ ns -> lack ns m + r.Contacts.length + 2 <= n ->
 ∃ m',Zs n x m r = some m' /\ ∀ y,hasM m y = true -> hasM m' y = true
 | 0,x,m,_,h=>absurd h (by omega)
 | n + 1,x,m,hx,h=>by
   rw [Zs]
   cases hh:hasM m x with
   | true =>
     have hh':(mGet m x).getD false = true:=hh
     rw [hh',if_pos rfl]
     exact ⟨m,rfl,fun _ h=>h⟩
   | false =>
     have hh':(mGet m x).getD false = false:=hh
     have hput:=ZcO hh hx
     obtain ⟨l,a1,a2,a3⟩:=Z9s n r x hs (by omega)
     rw [hh',if_neg (by simp),a1,Option.bind_some,show (0:Int) = ((0:Nat):Int) from rfl]
     obtain ⟨m',b1,b2⟩:=Z7s r ns l (Zs n) (by omega) (fun y hy=>by obtain ⟨c,hc,rfl⟩:=a3 y hy; exact (hns.ends c hc).2) (lack ns (mPut m x true))
      (fun y hy m' hm'=>Z9z r ns hns hs n y m' hy (by omega)) n 0 (mPut m x true) (by omega) (by omega) (Nat.le_refl _)
     exact ⟨m',b1,fun y hy=>b2 y (by rw [Z1X,hy]; simp)⟩
theorem Z7r (r:ApiRung) (s:List Int) (hs:s.length <= 1000000) (hr:∀ j ∈ s,∃ (k:Nat) (c:ApiContact),j = (k:Int) /\ r.Contacts[k]? = some c):∀ (q i:Nat) (acc:List Str),i <= s.length -> s.length - i < q -> acc.length = i -> (∀ x ∈ acc,∃ c ∈ r.Contacts,x = c.From) ->
 ∃ l,ZV r s q (i:Int) acc = some l /\ l.length = s.length /\ ∀ x ∈ l,∃ c ∈ r.Contacts,x = c.From
 | 0,i,acc,h,hm,_,_=>absurd hm (Nat.not_lt_zero _)
 | q + 1,i,acc,h,hm,ha,hx0=>by
   rw [ZV]
   by_cases hi:i < s.length
   ·obtain ⟨x,hx⟩:=Z8 hi
    obtain ⟨k,c,rfl,hc⟩:=hr x (List.mem_of_getElem? hx)
    rw [if_pos (by simpa using hi),Z2,hx,Option.bind_some,Z2,hc,Option.bind_some,if_pos (by simp; omega),Option.bind_some,wrapN (by omega)]
    exact Z7r r s hs hr q (i + 1) _ (by omega) (by omega) (by simp; omega) (fun x hx=>by
     rcases List.mem_append.1 hx with h | h
     ·exact hx0 x h
     ·rw [List.mem_singleton] at h; exact ⟨c,List.mem_of_getElem? hc,h⟩)
   ·rw [if_neg (by simpa using hi)]
    exact ⟨acc,rfl,by omega,hx0⟩
theorem Z9m (n:Nat) (r:ApiRung) (x:Str) (hs:r.Contacts.length <= 1000000) (hn:r.Contacts.length < n):∃ l,Z2h n x r = some l /\ l.length <= r.Contacts.length /\ ∀ y ∈ l,∃ c ∈ r.Contacts,y = c.From:=by
 obtain ⟨s,a1,a2,a3,_⟩:=Z7J n r x hs hn
 rw [Z2h,a1,Option.bind_some,show (0:Int) = ((0:Nat):Int) from rfl]
 obtain ⟨l,b1,b2,b3⟩:=Z7r r s (by omega) (fun j hj=>by obtain ⟨k,c,e1,e2,_⟩:=a3 j hj; exact ⟨k,c,e1,e2⟩) n 0 [] (by omega) (by omega) rfl (fun x h=>by cases h)
 exact ⟨l,b1,by omega,b3⟩
theorem Z7p (r:ApiRung) (ns:List Str) (s:List Str) (slf:Str -> List (Str × Bool) -> ApiRung -> Option (List (Str × Bool))) (hs:s.length <= 1000000) (hin:∀ x ∈ s,x ∈ ns) (M:Nat)
 (hf:∀ x ∈ ns,∀ m,lack ns m <= M -> ∃ m',slf x m r = some m' /\ ∀ y,hasM m y = true -> hasM m' y = true):∀ (q i:Nat) (m:List (Str × Bool)),i <= s.length -> s.length - i < q -> lack ns m <= M ->
 ∃ m',ZF r s slf q m (i:Int) = some m' /\ ∀ y,hasM m y = true -> hasM m' y = true
 | 0,i,m,h,hm,_=>absurd hm (Nat.not_lt_zero _)
 | q + 1,i,m,h,hm,hM=>by
   rw [ZF]
   by_cases hi:i < s.length
   ·obtain ⟨x,hx⟩:=Z8 hi
    obtain ⟨m1,a1,a2⟩:=hf x (hin x (List.mem_of_getElem? hx)) m hM
    rw [if_pos (by simpa using hi),Z2,hx,Option.bind_some,a1,Option.bind_some,wrapN (by omega)]
    obtain ⟨m',b1,b2⟩:=Z7p r ns s slf hs hin M hf q (i + 1) m1 (by omega) (by omega) (Nat.le_trans (Z8N a2 ns) hM)
    exact ⟨m',b1,fun y hy=>b2 y (a2 y hy)⟩
   ·rw [if_neg (by simpa using hi)]
    exact ⟨m,rfl,fun _ h=>h⟩
theorem Z9j (r:ApiRung) (ns:List Str) (hns:IsNodes r ns) (hs:r.Contacts.length <= 1000000):∀ (n:Nat) (x:Str) (m:List (Str × Bool)),x ∈ ns -> lack ns m + r.Contacts.length + 2 <= n ->
 ∃ m',Zr n x m r = some m' /\ ∀ y,hasM m y = true -> hasM m' y = true
 | 0,x,m,_,h=>absurd h (by omega)
 | n + 1,x,m,hx,h=>by
   rw [Zr]
   cases hh:hasM m x with
   | true =>
     have hh':(mGet m x).getD false = true:=hh
     rw [hh',if_pos rfl]
     exact ⟨m,rfl,fun _ h=>h⟩
   | false =>
     have hh':(mGet m x).getD false = false:=hh
     have hput:=ZcO hh hx
     obtain ⟨l,a1,a2,a3⟩:=Z9m n r x hs (by omega)
     rw [hh',if_neg (by simp),a1,Option.bind_some,show (0:Int) = ((0:Nat):Int) from rfl]
     obtain ⟨m',b1,b2⟩:=Z7p r ns l (Zr n) (by omega) (fun y hy=>by obtain ⟨c,hc,rfl⟩:=a3 y hy; exact (hns.ends c hc).1) (lack ns (mPut m x true))
      (fun y hy m' hm'=>Z9j r ns hns hs n y m' hy (by omega)) n 0 (mPut m x true) (by omega) (by omega) (Nat.le_refl _)
     exact ⟨m',b1,fun y hy=>b2 y (by rw [Z1X,hy]; simp)⟩
section
variable (n:Nat) (m2:List (Str × Bool))
theorem Zct (l:List Str) (hl:l.length <= 100000000) (hp:∀ x,∃ b,Z1N n x m2 = some b):∀ (q i:Nat),i <= l.length -> l.length - i < q ->
 ∃ t:Int,Zm n l m2 q (i:Int) = some t /\ (t = -1 \/ ∃ k:Nat,t = (k:Int) /\ k < l.length)
 | 0,i,h,hm=>absurd hm (Nat.not_lt_zero _)
 | q + 1,i,h,hm=>by
   rw [Zm]
   by_cases hi:i < l.length
   ·obtain ⟨x,hx⟩:=Z8 hi
    obtain ⟨b,hb⟩:=hp x
    rw [if_pos (by simpa using hi),Z2,hx,Option.bind_some,hb,Option.bind_some]
    cases b with
    | true=>rw [if_pos rfl]; exact ⟨_,rfl,.inr ⟨i,rfl,hi⟩⟩
    | false =>
      rw [if_neg (by simp),wrapN (by omega)]
      exact Zct l hl hp q (i + 1) (by omega) (by omega)
   ·rw [if_neg (by simpa using hi)]
    exact ⟨_,rfl,.inl rfl⟩
theorem Z8x (len:Nat) (hl:len <= 100000000) (hp:∀ x,∃ b,Z1N n x m2 = some b):∀ (q j i:Nat) (l:List Str),l.length = len -> i <= j -> j <= len -> len - j < q ->
 ∃ l',Ze n m2 q l (i:Int) (j:Int) = some l' /\ l'.length <= len
 | 0,j,i,l,_,_,_,hm=>absurd hm (Nat.not_lt_zero _)
 | q + 1,j,i,l,hll,hij,hj,hm=>by
   rw [Ze]
   by_cases hk:j < l.length
   ·obtain ⟨x,hx⟩:=Z8 hk
    obtain ⟨y,hy⟩:=Z8 (l:=l) (i:=i) (by omega)
    obtain ⟨b,hb⟩:=hp x
    rw [if_pos (by simpa using hk),Z2,hx,Option.bind_some,hb,Option.bind_some]
    cases b with
    | true =>
      rw [if_neg (by simp),wrapN (by omega)]
      exact Z8x len hl hp q (j + 1) i l hll (by omega) (by omega) (by omega)
    | false =>
      rw [if_pos (by simp),Z2,hy,Option.bind_some,Option.bind_some,wrapN (by omega),wrapN (by omega)]
      exact Z8x len hl hp q (j + 1) (i + 1) _ (by rw [List.length_set]; exact hll) (by omega) (by omega) (by omega)
   ·rw [if_neg (by simpa using hk),Int.toNat_natCast,if_pos (by omega),if_pos (by omega),if_pos (by omega)]
    exact ⟨_,rfl,by rw [List.length_take]; omega⟩
theorem Zdy (l:List Str) (hl:l.length <= 100000000) (hn:l.length < n) (hp:∀ x,∃ b,Z1N n x m2 = some b):∃ l',Zw n l m2 = some l' /\ l'.length <= l.length:=by
 obtain ⟨t,a1,a2⟩:=Zct n m2 l hl hp n 0 (by omega) (by omega)
 have a1':Z1l n l m2 = some t:=a1
 rw [Zw,a1',Option.bind_some]
 rcases a2 with rfl | ⟨k,rfl,hk⟩
 ·rw [if_pos (by decide)]; exact ⟨l,rfl,Nat.le_refl _⟩
 ·rw [if_neg (by simp),wrapN (by omega)]
  exact Z8x n m2 l.length hl hp n (k + 1) k l rfl (by omega) (by omega) (by omega)
end
section
variable (n:Nat) (b1 b2:List Str)
theorem Zcy (l:List Str) (hl:l.length <= 100000000) (hp:∀ x,∃ b,Z15 n x b1 b2 = some b):∀ (q i:Nat),i <= l.length -> l.length - i < q ->
 ∃ t:Int,Zn n l b1 b2 q (i:Int) = some t /\ (t = -1 \/ ∃ k:Nat,t = (k:Int) /\ k < l.length)
 | 0,i,h,hm=>absurd hm (Nat.not_lt_zero _)
 | q + 1,i,h,hm=>by
   rw [Zn]
   by_cases hi:i < l.length
   ·obtain ⟨x,hx⟩:=Z8 hi
    obtain ⟨b,hb⟩:=hp x
    rw [if_pos (by simpa using hi),Z2,hx,Option.bind_some,hb,Option.bind_some]
    cases b with
    | true=>rw [if_pos rfl]; exact ⟨_,rfl,.inr ⟨i,rfl,hi⟩⟩
    | false =>
      rw [if_neg (by simp),wrapN (by omega)]
      exact Zcy l hl hp q (i + 1) (by omega) (by omega)
   ·rw [if_neg (by simpa using hi)]
    exact ⟨_,rfl,.inl rfl⟩
theorem Z8E (len:Nat) (hl:len <= 100000000) (hp:∀ x,∃ b,Z15 n x b1 b2 = some b):∀ (q j i:Nat) (l:List Str),l.length = len -> i <= j -> j <= len -> len - j < q ->
 ∃ l',Zk n b1 b2 q l (i:Int) (j:Int) = some l' /\ l'.length <= len
 | 0,j,i,l,_,_,_,hm=>absurd hm (Nat.not_lt_zero _)
 | q + 1,j,i,l,hll,hij,hj,hm=>by
   rw [Zk]
   by_cases hk:j < l.length
   ·obtain ⟨x,hx⟩:=Z8 hk
    obtain ⟨y,hy⟩:=Z8 (l:=l) (i:=i) (by omega)
    obtain ⟨b,hb⟩:=hp x
    rw [if_pos (by simpa using hk),Z2,hx,Option.bind_some,hb,Option.bind_some]
    cases b with
    | true =>
      rw [if_neg (by simp),wrapN (by omega)]
      exact Z8E len hl hp q (j + 1) i l hll (by omega) (by omega) (by omega)
    | false =>
      rw [if_pos (by simp),Z2,hy,Option.bind_some,Option.bind_some,wrapN (by omega),wrapN (by omega)]
      exact Z8E len hl hp q (j + 1) (i + 1) _ (by rw [List.length_set]; exact hll) (by omega) (by omega) (by omega)
   ·rw [if_neg (by simpa using hk),Int.toNat_natCast,if_pos (by omega),if_pos (by omega),if_pos (by omega)]
    exact ⟨_,rfl,by rw [List.length_take]; omega⟩
theorem Zik (l:List Str) (hl:l.length <= 100000000) (hn:l.length < n) (hp:∀ x,∃ b,Z15 n x b1 b2 = some b):∃ l',ZK n l b1 b2 = some l' /\ l'.length <= l.length:=by
 obtain ⟨t,a1,a2⟩:=Zcy n b1 b2 l hl hp n 0 (by omega) (by omega)
 have a1':Z1k n l b1 b2 = some t:=a1
 rw [ZK,a1',Option.bind_some]
 rcases a2 with rfl | ⟨k,rfl,hk⟩
 ·rw [if_pos (by decide)]; exact ⟨l,rfl,Nat.le_refl _⟩
 ·rw [if_neg (by simp),wrapN (by omega)]
  exact Z8E n b1 b2 l.length hl hp n (k + 1) k l rfl (by omega) (by omega) (by omega)
end
theorem ZgT (n:Nat) (r:ApiRung) (hs:r.Contacts.length <= 1000000) (hn:4 * r.Contacts.length + 20 <= n):∃ l,Z2N n r (⟨#[76]⟩:Str) = some l /\ l.length <= 2 + 2 * r.Contacts.length:=by
 obtain ⟨ns,a1,a2⟩:=Z8C n r (by omega) hs
 have hlen:=a2.len
 have hmem:(⟨#[76]⟩:Str) ∈ ns:=a2.L
 obtain ⟨m,b1,_⟩:=Z9z r ns a2 hs n (⟨#[76]⟩:Str) [] hmem (by have:=ZhF ns []; omega)
 obtain ⟨l,c1,c2⟩:=Zdy n m ns (by omega) (by omega) (fun x=>⟨_,rfl⟩)
 refine ⟨l,?_,by omega⟩
 rw [Z2N,Z3T,a1,Option.bind_some,Z4P n ns _ (by omega) (by omega),Option.bind_some,if_neg (by simp [hmem]),b1,Option.bind_some,c1]
 rfl
theorem ZgE (n:Nat) (r:ApiRung) (hs:r.Contacts.length <= 1000000) (hn:4 * r.Contacts.length + 20 <= n):∃ l,Z2K n r (⟨#[82]⟩:Str) = some l /\ l.length <= 2 + 2 * r.Contacts.length:=by
 obtain ⟨ns,a1,a2⟩:=Z8C n r (by omega) hs
 have hlen:=a2.len
 have hmem:(⟨#[82]⟩:Str) ∈ ns:=a2.R
 obtain ⟨m,b1,_⟩:=Z9j r ns a2 hs n (⟨#[82]⟩:Str) [] hmem (by have:=ZhF ns []; omega)
 obtain ⟨l,c1,c2⟩:=Zdy n m ns (by omega) (by omega) (fun x=>⟨_,rfl⟩)
 refine ⟨l,?_,by omega⟩
 rw [Z2K,Z3U,a1,Option.bind_some,Z4P n ns _ (by omega) (by omega),Option.bind_some,if_neg (by simp [hmem]),b1,Option.bind_some,c1]
 rfl
end Go.G
namespace Go.G
open Go.Av
def cfT (a b:TreeTree):Option Int:=some (cmpI (ZJ a) (ZJ b))
theorem ZeD:ltM cfT = ltT:=by
 funext a b
 simp only [ltM,cfT,ltT,Zaj]
theorem ZfU {js:List TreeTree} (h:(js.map ZJ).Nodup):SortP cfT js :=
 SortP.of_key ZJ (fun a _ b _=>⟨_,rfl,Zaj _ _⟩) h
theorem Z6B {js js':List TreeTree} (h:js.Perm js') (hd:(js.map ZJ).Nodup):Z20 ltT js = Z20 ltT js':=by
 have p:=ZfU hd
 have p':=p.perm h.symm
 rw [<- ZeD]
 exact p.unique (fun x hx=>(Z1Q _ js).subset hx) ((Z1Q _ js).trans (h.trans (Z1Q _ js').symm)) p.asc p'.asc
structure Good (len:Int) (t:TreeTree):Prop where
 ok:Ok len t
 nd:(lv t).Nodup
structure Goods (len:Int) (js:List TreeTree):Prop where
 ok:∀ t ∈ js,Ok len t
 nd:(lvs js).Nodup
theorem Goods.least {len:Int} {js:List TreeTree} (h:Goods len js):(js.map ZJ).Nodup:=Z9f js (fun k hk=>(Ok_lv (h.ok k hk)).1) h.nd
theorem Goods.mem {len:Int} {js:List TreeTree} (h:Goods len js) {t:TreeTree} (ht:t ∈ js):Good len t:=⟨h.ok t ht,Z80 h.nd ht⟩
theorem Goods.perm {len:Int} {js js':List TreeTree} (h:Goods len js) (p:js.Perm js'):Goods len js':=⟨fun t ht=>h.ok t (p.symm.subset ht),(Zg9 p).nodup_iff.1 h.nd⟩
theorem Zaa (a b:List TreeTree):lvs (a ++ b) = lvs a ++ lvs b:=by rw [Z4a,Z4a,Z4a,List.flatMap_append]
theorem Zis (js:List TreeTree):(lvs (js.map Z5)).Perm (lvs js):=by
 induction js with
 | nil=>exact .refl _
 | cons k js ih=>rw [List.map_cons,lvs,lvs]; exact (Z57 k).append ih
theorem Goods.sorted {len:Int} {js:List TreeTree} (h:Goods len js):Goods len (js.map Z5) :=
 ⟨fun t ht=>by obtain ⟨k,hk,rfl⟩:=List.mem_map.1 ht; exact Z6Y (h.ok k hk),(Zis js).nodup_iff.2 h.nd⟩
theorem Good.kids {len:Int} {K N:Int} {ks:List TreeTree} (h:Good len (.mk K N ks)) (hK:K = 1 \/ K = 2):Goods len ks:=by
 have h1:=h.ok
 rw [Ok] at h1
 rcases h1 with ⟨rfl,_⟩ | ⟨_,_,_,_,h4⟩
 ·omega
 ·refine ⟨OkL_iff.1 h4,?_⟩
  have:=h.nd
  rwa [lv,if_neg (by omega),if_pos hK] at this
theorem Z9V (ks:List TreeTree):Z5 (.mk 1 0 ks) = .mk 1 0 (ks.map Z5):=by
 rw [Z5,if_neg (by decide),Z3s]
theorem Z9G (ks:List TreeTree):Z5 (.mk 2 0 ks) = .mk 2 0 (Z20 ltT (ks.map Z5)):=by
 rw [Z5,if_pos rfl,Z3s]
theorem Z7E {len:Int}:∀ {t:TreeTree},Good len t -> Z5 (Z5 t) = Z5 t:=by
 intro t
 induction t using Z25 with
 | h K N ks ih =>
   intro h
   have h1:=h.ok
   rw [Ok] at h1
   rcases h1 with ⟨rfl,rfl,_,_⟩ | ⟨hK,rfl,_,_,_⟩
   ·rw [Z5,if_neg (by decide),Z2Q,Z5,if_neg (by decide),Z2Q]
   ·have hg:=h.kids hK
    have hm:(ks.map Z5).map Z5 = ks.map Z5:=by
     rw [List.map_map]
     exact List.map_congr_left fun t ht=>ih t ht (hg.mem ht)
    rcases hK with rfl | rfl
    ·rw [Z9V,Z9V,hm]
    ·rw [Z9G,Z9G]
     have hd:((ks.map Z5).map ZJ).Nodup:=hg.sorted.least
     have p:((Z20 ltT (ks.map Z5)).map Z5).Perm (ks.map Z5):=by
      have:=(Z1Q ltT (ks.map Z5)).map Z5
      rwa [hm] at this
     rw [Z6B p ((p.map ZJ).nodup_iff.2 hd)]
def J (K:Int) (a b:TreeTree):TreeTree:=Z5 (joinT K a b)
section
variable {len:Int} {K:Int} (hK:K = 1 \/ K = 2)
include hK
theorem ZdQ {a b:TreeTree} (ha:Good len a) (hb:Good len b) (hd:(lv a ++ lv b).Nodup):Good len (joinT K a b):=⟨ZgH hK ha.ok hb.ok,by rw [ZcQ hK]; exact hd⟩
theorem Zh6 {a:TreeTree} (ha:Good len a):Good len (Z5 a):=⟨Z6Y ha.ok,(Z57 a).nodup_iff.2 ha.nd⟩
theorem J_lv (a b:TreeTree):(lv (J K a b)).Perm (lv a ++ lv b):=by
 refine (Z57 _).trans ?_
 rw [ZcQ hK]
theorem Zl0 {a b:TreeTree} (ha:Good len a) (hb:Good len b) (hd:(lv a ++ lv b).Nodup):Good len (J K a b):=Zh6 hK (ZdQ hK ha hb hd)
theorem Z7F {a:TreeTree} (ha:Good len a):Goods len (joinK K a):=⟨fun t ht=>((ZcK hK ha.ok).2 t ht).2,by rw [Z5Y hK]; exact ha.nd⟩
theorem Z4c {a b:TreeTree} (ha:Good len a) (hb:Good len b) (hd:(lv a ++ lv b).Nodup):Goods len (joinK K a ++ joinK K b) :=
 ⟨fun t ht=>by
   rcases List.mem_append.1 ht with h | h
   ·exact (Z7F hK ha).ok t h
   ·exact (Z7F hK hb).ok t h,by rw [Zaa,Z5Y hK,Z5Y hK]; exact hd⟩
theorem Z8u {a:TreeTree} (ha:Good len a):(joinK K (Z5 a)).Perm ((joinK K a).map Z5):=by
 unfold joinK
 rw [Z8B]
 split
 ·obtain ⟨K',N,ks⟩:=a
  exact Z6U K' N ks
 ·exact .refl _
end
theorem Zaq (a:TreeTree):joinK 1 (Z5 a) = (joinK 1 a).map Z5:=by
 unfold joinK
 rw [Z8B]
 split
 ·rename_i h
  obtain ⟨K',N,ks⟩:=a
  rw [Zi] at h; subst h
  rw [Z5,if_neg (by decide),Z3s]; rfl
 ·rfl
theorem J1_eq (a b:TreeTree):J 1 a b = .mk 1 0 ((joinK 1 a ++ joinK 1 b).map Z5):=by rw [J,joinT,Z9V]
theorem Z7a (a b:TreeTree):J 2 a b = .mk 2 0 (Z20 ltT ((joinK 2 a ++ joinK 2 b).map Z5)):=by rw [J,joinT,Z9G]
theorem Z9U (K:Int) (ks:List TreeTree):joinK K (.mk K 0 ks) = ks:=by rw [joinK,Zi,if_pos rfl]; rfl
theorem Z8D {len:Int} {js:List TreeTree} (h:Goods len js):(js.map Z5).map Z5 = js.map Z5:=by
 rw [List.map_map]
 exact List.map_congr_left fun t ht=>Z7E (h.mem ht)
theorem nd3 {α:Type} {a b c:List α} (h:(a ++ b ++ c).Nodup):(a ++ b).Nodup /\ (b ++ c).Nodup /\ (a ++ c).Nodup:=by
 refine ⟨(List.nodup_append.1 h).1,?_,?_⟩
 ·rw [List.append_assoc] at h; exact (List.nodup_append.1 h).2.1
 ·have:(b ++ (a ++ c)).Nodup:=by
   refine List.Perm.nodup_iff ?_ |>.1 h
   rw [<- List.append_assoc]
   exact List.perm_append_comm.append_right _
  exact (List.nodup_append.1 this).2.1
section
variable {len:Int} {a b c:TreeTree} (ha:Good len a) (hb:Good len b)
include ha hb
theorem ZgG {K:Int} (hK:K = 1 \/ K = 2) (hd:(lv a ++ lv b).Nodup):J K (Z5 a) (Z5 b) = J K a b:=by
 have hg:=Z4c hK ha hb hd
 rcases hK with rfl | rfl
 ·rw [J1_eq,J1_eq,Zaq,Zaq,<- List.map_append,Z8D hg]
 ·rw [Z7a,Z7a]
  congr 1
  have p:(joinK 2 (Z5 a) ++ joinK 2 (Z5 b)).Perm ((joinK 2 a ++ joinK 2 b).map Z5):=by
   rw [List.map_append]
   exact (Z8u (.inr rfl) ha).append (Z8u (.inr rfl) hb)
  have p2:=p.map Z5
  rw [Z8D hg] at p2
  exact Z6B p2 ((p2.map ZJ).nodup_iff.2 hg.sorted.least)
theorem Zku (hd:(lv a ++ lv b).Nodup):J 2 a b = J 2 b a:=by
 have hg:=Z4c (.inr rfl) ha hb hd
 rw [Z7a,Z7a]
 congr 1
 exact Z6B (List.perm_append_comm.map Z5) hg.sorted.least
variable (hc:Good len c) (hd:(lv a ++ lv b ++ lv c).Nodup)
include hc hd
theorem Zkj:J 1 (J 1 a b) c = J 1 a (J 1 b c):=by
 have g1:=Z4c (.inl rfl) ha hb (nd3 hd).1
 have g2:=Z4c (.inl rfl) hb hc (nd3 hd).2.1
 rw [J1_eq,J1_eq a b,Z9U,J1_eq a,J1_eq b c,Z9U,List.map_append,Z8D g1,List.map_append (l₁:=joinK 1 a) (l₂:=(joinK 1 b ++ joinK 1 c).map Z5),Z8D g2]
 simp [List.append_assoc]
theorem Zkh:J 2 (J 2 a b) c = J 2 (J 2 a c) b:=by
 have g1:=Z4c (.inr rfl) ha hb (nd3 hd).1
 have g2:=Z4c (.inr rfl) ha hc (nd3 hd).2.2
 have key:∀ (u v w:List TreeTree),Goods len (u ++ v) -> (Z20 ltT (((Z20 ltT ((u ++ v).map Z5)) ++ w).map Z5)).Perm ((u ++ v ++ w).map Z5) /\
  (((Z20 ltT ((u ++ v).map Z5)) ++ w).map Z5).Perm ((u ++ v ++ w).map Z5):=fun u v w hg=>by
  have p:(((Z20 ltT ((u ++ v).map Z5)) ++ w).map Z5).Perm ((u ++ v ++ w).map Z5):=by
   rw [List.map_append,List.map_append (l₁:=u ++ v)]
   refine List.Perm.append_right _ ?_
   have:=(Z1Q ltT ((u ++ v).map Z5)).map Z5
   rwa [Z8D hg] at this
  exact ⟨(Z1Q _ _).trans p,p⟩
 have hall:Goods len (joinK 2 a ++ joinK 2 b ++ joinK 2 c):=⟨fun t ht=>by
  rcases List.mem_append.1 ht with h | h
  ·exact g1.ok t h
  ·exact (Z7F (.inr rfl) hc).ok t h,by rw [Zaa,Zaa,Z5Y (.inr rfl),Z5Y (.inr rfl),Z5Y (.inr rfl)]; exact hd⟩
 rw [Z7a,Z7a a b,Z9U,Z7a (J 2 a c) b,Z7a a c,Z9U]
 congr 1
 have p1:=(key (joinK 2 a) (joinK 2 b) (joinK 2 c) g1).2
 have p2:=(key (joinK 2 a) (joinK 2 c) (joinK 2 b) g2).2
 have p3:((joinK 2 a ++ joinK 2 c ++ joinK 2 b).map Z5).Perm ((joinK 2 a ++ joinK 2 b ++ joinK 2 c).map Z5):=by
  refine List.Perm.map _ ?_
  rw [List.append_assoc,List.append_assoc]
  exact List.perm_append_comm.append_left _
 refine Z6B (p1.trans (p2.trans p3).symm) ((p1.map ZJ).nodup_iff.2 hall.sorted.least)
end
end Go.G
namespace Go.G
open Go.Av
def CondP (K:Int) (x y:ReduceEdge) (r:List ReduceEdge):Prop :=
 (K = 2 /\ y.pair = x.pair) \/
 (K = 1 /\ y.pair.from_ = x.pair.to_ /\ x.pair.to_ ≠ strLL /\ x.pair.to_ ≠ strRR /\ (∀ e ∈ y :: r,e.pair.to_ ≠ x.pair.to_) /\ ∀ e ∈ x :: r,e.pair.from_ ≠ x.pair.to_)
def joinE (K:Int) (x y:ReduceEdge):ReduceEdge:=⟨⟨x.pair.from_,y.pair.to_⟩,J K x.t_ y.t_⟩
def RedP (l l':List ReduceEdge):Prop:=∃ K x y r,l.Perm (x :: y :: r) /\ CondP K x y r /\ l'.Perm (joinE K x y :: r)
theorem CondP.K {K:Int} {x y:ReduceEdge} {r:List ReduceEdge} (h:CondP K x y r):K = 1 \/ K = 2:=by
 rcases h with h | h
 ·exact .inr h.1
 ·exact .inl h.1
theorem CondP.perm {K:Int} {x y:ReduceEdge} {r r':List ReduceEdge} (h:CondP K x y r) (p:r.Perm r'):CondP K x y r':=by
 rcases h with h | ⟨h1,h2,h3,h4,h5,h6⟩
 ·exact .inl h
 ·refine .inr ⟨h1,h2,h3,h4,fun e he=>h5 e ?_,fun e he=>h6 e ?_⟩
  ·exact (p.symm.cons y).subset he
  ·exact (p.symm.cons x).subset he
theorem RedP.of_perm {l l2 a:List ReduceEdge} (h:RedP l a) (p:l.Perm l2):RedP l2 a:=by
 obtain ⟨K,x,y,r,h1,h2,h3⟩:=h
 exact ⟨K,x,y,r,p.symm.trans h1,h2,h3⟩
theorem RedP.length {l a:List ReduceEdge} (h:RedP l a):a.length + 1 = l.length:=by
 obtain ⟨K,x,y,r,h1,h2,h3⟩:=h
 rw [h1.length_eq,h3.length_eq]; rfl
structure PInv (len:Int) (rank:Str -> Nat) (l:List ReduceEdge):Prop where
 ok:∀ e ∈ l,Ok len e.t_
 nd:(l.flatMap fun e=>lv e.t_).Nodup
 rk:∀ e ∈ l,rank e.pair.from_ < rank e.pair.to_
section
variable {len:Int} {rank:Str -> Nat} {l l':List ReduceEdge}
theorem PInv.perm (h:PInv len rank l) (p:l.Perm l'):PInv len rank l' :=
 ⟨fun e he=>h.ok e (p.symm.subset he),(p.flatMap_right _).nodup_iff.1 h.nd,fun e he=>h.rk e (p.symm.subset he)⟩
theorem Zee {α β:Type} {f:α -> List β}:∀ {l:List α},(∀ e ∈ l,f e ≠ []) -> (l.flatMap f).Nodup -> l.Nodup
 | [],_,_=>List.nodup_nil
 | e :: l,hne,h=>by
   rw [List.flatMap_cons,List.nodup_append] at h
   refine List.nodup_cons.2 ⟨fun hm=>?_,Zee (fun e he=>hne e (by simp [he])) h.2.1⟩
   obtain ⟨x,hx⟩:=List.exists_mem_of_ne_nil _ (hne e (by simp))
   exact h.2.2 x hx x (List.mem_flatMap.2 ⟨e,hm,hx⟩) rfl
theorem PInv.nodup (h:PInv len rank l):l.Nodup:=Zee (fun e he=>(Ok_lv (h.ok e he)).1) h.nd
theorem PInv.two {x y:ReduceEdge} {r:List ReduceEdge} (h:PInv len rank (x :: y :: r)):Good len x.t_ /\ Good len y.t_ /\ (lv x.t_ ++ lv y.t_).Nodup:=by
 have h1:=h.nd
 rw [List.flatMap_cons,List.flatMap_cons,<- List.append_assoc] at h1
 have h2:=(List.nodup_append.1 h1).1
 exact ⟨⟨h.ok x (by simp),(List.nodup_append.1 h2).1⟩,⟨h.ok y (by simp),(List.nodup_append.1 h2).2.1⟩,h2⟩
theorem PInv.three {x y z:ReduceEdge} {r:List ReduceEdge} (h:PInv len rank (x :: y :: z :: r)):(lv x.t_ ++ lv y.t_ ++ lv z.t_).Nodup /\ Good len z.t_:=by
 have h1:=h.nd
 rw [List.flatMap_cons,List.flatMap_cons,List.flatMap_cons,<- List.append_assoc,<- List.append_assoc] at h1
 have h2:=(List.nodup_append.1 h1).1
 exact ⟨h2,⟨h.ok z (by simp),(List.nodup_append.1 h2).2.1⟩⟩
theorem PInv.join {K:Int} {x y:ReduceEdge} {r:List ReduceEdge} (h:PInv len rank (x :: y :: r)) (hc:CondP K x y r):PInv len rank (joinE K x y :: r):=by
 obtain ⟨g1,g2,g3⟩:=h.two
 refine ⟨fun e he=>?_,?_,fun e he=>?_⟩
 ·rcases List.mem_cons.1 he with rfl | he
  ·exact (Zl0 hc.K g1 g2 g3).ok
  ·exact h.ok e (by simp [he])
 ·have h1:=h.nd
  rw [List.flatMap_cons,List.flatMap_cons,<- List.append_assoc] at h1
  rw [List.flatMap_cons]
  exact ((J_lv hc.K x.t_ y.t_).append_right _).nodup_iff.2 h1
 ·rcases List.mem_cons.1 he with rfl | he
  ·have r1:=h.rk x (by simp)
   have r2:=h.rk y (by simp)
   show rank x.pair.from_ < rank y.pair.to_
   rcases hc with ⟨_,hp⟩ | ⟨_,hf,_⟩
   ·rw [hp]; exact r1
   ·rw [hf] at r2; omega
  ·exact h.rk e (by simp [he])
theorem PInv.red (h:PInv len rank l) (k:RedP l l'):PInv len rank l':=by
 obtain ⟨K,x,y,r,h1,h2,h3⟩:=k
 exact ((h.perm h1).join h2).perm h3.symm
theorem Z7z {α:Type} {a:α}:∀ {l:List α},a ∈ l -> ∃ r,l.Perm (a :: r)
 | b :: l,h=>by
   rcases List.mem_cons.1 h with rfl | h
   ·exact ⟨l,.refl _⟩
   ·obtain ⟨r,hr⟩:=Z7z h
    exact ⟨b :: r,(hr.cons b).trans (List.Perm.swap _ _ _)⟩
theorem Zjw {x y z w:ReduceEdge} {r s:List ReduceEdge} (hl:l.Nodup) (h1:l.Perm (x :: y :: r)) (h2:l.Perm (z :: w :: s)) (hzx:z ≠ x) (hzy:z ≠ y) (hwx:w ≠ x) (hwy:w ≠ y) :
 ∃ q,r.Perm (z :: w :: q) /\ s.Perm (x :: y :: q):=by
 have hzw:z ≠ w:=by
  have:=h2.nodup_iff.1 hl
  rw [List.nodup_cons] at this
  exact fun e=>this.1 (by simp [e])
 have mz:z ∈ r:=by
  have:=h1.subset (h2.symm.subset (List.mem_cons_self (a:=z)))
  simpa [hzx,hzy] using this
 have mw:w ∈ r:=by
  have:=h1.subset (h2.symm.subset (show w ∈ z :: w :: s by simp))
  simpa [hwx,hwy] using this
 obtain ⟨r1,p1⟩:=Z7z mz
 have mw1:w ∈ r1:=by
  have:=p1.subset mw
  rcases List.mem_cons.1 this with e | h
  ·exact absurd e.symm hzw
  ·exact h
 obtain ⟨q,p2⟩:=Z7z mw1
 have p3:r.Perm (z :: w :: q):=p1.trans (p2.cons z)
 refine ⟨q,p3,?_⟩
 have:(z :: w :: s).Perm (z :: w :: x :: y :: q):=by
  refine h2.symm.trans (h1.trans ?_)
  refine ((p3.cons y).cons x).trans ?_
  have e:(x :: y :: z :: w :: q) = [x,y] ++ ([z,w] ++ q):=rfl
  have e':(z :: w :: x :: y :: q) = [z,w] ++ ([x,y] ++ q):=rfl
  rw [e,e',<- List.append_assoc,<- List.append_assoc]
  exact List.perm_append_comm.append_right _
 exact ((List.perm_cons z).1 this |> (List.perm_cons w).1)
theorem ZdD {x y w:ReduceEdge} {r s:List ReduceEdge} (hl:l.Nodup) (h1:l.Perm (x :: y :: r)) (h2:l.Perm (x :: w :: s)) (hwy:w ≠ y):∃ q,r.Perm (w :: q) /\ s.Perm (y :: q):=by
 have hxw:w ≠ x:=by
  have:=h2.nodup_iff.1 hl
  rw [List.nodup_cons] at this
  exact fun e=>this.1 (by simp [e])
 have mw:w ∈ r:=by
  have:=h1.subset (h2.symm.subset (show w ∈ x :: w :: s by simp))
  simpa [hxw,hwy] using this
 obtain ⟨q,p⟩:=Z7z mw
 refine ⟨q,p,?_⟩
 have:(x :: w :: s).Perm (x :: w :: y :: q):=by
  refine h2.symm.trans (h1.trans ?_)
  refine ((p.cons y).cons x).trans ?_
  exact (List.Perm.swap w y q).cons x
 exact ((List.perm_cons x).1 this |> (List.perm_cons w).1)
theorem swap2 {x y:ReduceEdge} {r:List ReduceEdge} (h:l.Perm (x :: y :: r)):l.Perm (y :: x :: r):=h.trans (List.Perm.swap _ _ _)
theorem CondP.step {K K':Int} {x y z w:ReduceEdge} {q:List ReduceEdge} (h:CondP K' z w (x :: y :: q)):CondP K' z w (joinE K x y :: q):=by
 rcases h with h | ⟨h1,h2,h3,h4,h5,h6⟩
 ·exact .inl h
 ·refine .inr ⟨h1,h2,h3,h4,fun e he=>?_,fun e he=>?_⟩
  ·rcases List.mem_cons.1 he with rfl | he
   ·exact h5 _ (by simp)
   ·rcases List.mem_cons.1 he with rfl | he
    ·exact h5 y (by simp)
    ·exact h5 e (by simp [he])
  ·rcases List.mem_cons.1 he with rfl | he
   ·exact h6 _ (by simp)
   ·rcases List.mem_cons.1 he with rfl | he
    ·exact h6 x (by simp)
    ·exact h6 e (by simp [he])
theorem Zfw {K K':Int} {x y z w:ReduceEdge} {r s a b:List ReduceEdge} (hl:l.Nodup) (h1:l.Perm (x :: y :: r)) (c1:CondP K x y r) (e1:a.Perm (joinE K x y :: r)) (h2:l.Perm (z :: w :: s)) (c2:CondP K' z w s) (e2:b.Perm (joinE K' z w :: s))
 (hzx:z ≠ x) (hzy:z ≠ y) (hwx:w ≠ x) (hwy:w ≠ y):∃ c,RedP a c /\ RedP b c:=by
 obtain ⟨q,p1,p2⟩:=Zjw hl h1 h2 hzx hzy hwx hwy
 refine ⟨joinE K' z w :: joinE K x y :: q,⟨K',z,w,joinE K x y :: q,?_,(c2.perm p2).step,.refl _⟩,⟨K,x,y,joinE K' z w :: q,?_,(c1.perm p1).step,List.Perm.swap _ _ _⟩⟩
 ·refine e1.trans ((p1.cons _).trans ?_)
  have e:(joinE K x y :: z :: w :: q) = [joinE K x y] ++ ([z,w] ++ q):=rfl
  have e':(z :: w :: joinE K x y :: q) = [z,w] ++ ([joinE K x y] ++ q):=rfl
  rw [e,e',<- List.append_assoc,<- List.append_assoc]
  exact List.perm_append_comm.append_right _
 ·refine e2.trans ((p2.cons _).trans ?_)
  have e:(joinE K' z w :: x :: y :: q) = [joinE K' z w] ++ ([x,y] ++ q):=rfl
  have e':(x :: y :: joinE K' z w :: q) = [x,y] ++ ([joinE K' z w] ++ q):=rfl
  rw [e,e',<- List.append_assoc,<- List.append_assoc]
  exact List.perm_append_comm.append_right _
theorem Z7D {x y w:ReduceEdge} {r s a b:List ReduceEdge} (hi:PInv len rank l) (h1:l.Perm (x :: y :: r)) (c1:y.pair = x.pair) (e1:a.Perm (joinE 2 x y :: r)) (h2:l.Perm (x :: w :: s)) (c2:w.pair = x.pair) (e2:b.Perm (joinE 2 x w :: s)) :
 a.Perm b \/ ∃ c,RedP a c /\ RedP b c:=by
 by_cases hwy:w = y
 ·subst hwy
  left
  have:r.Perm s:=by
   have:=h1.symm.trans h2
   exact ((List.perm_cons x).1 this |> (List.perm_cons w).1)
  exact e1.trans ((this.cons _).trans e2.symm)
 ·right
  obtain ⟨q,p1,p2⟩:=ZdD hi.nodup h1 h2 hwy
  have hi3:PInv len rank (x :: y :: w :: q):=hi.perm (h1.trans ((p1.cons y).cons x))
  obtain ⟨g1,g2,_⟩:=hi3.two
  obtain ⟨g3,g4⟩:=hi3.three
  refine ⟨joinE 2 (joinE 2 x y) w :: q,⟨2,joinE 2 x y,w,q,e1.trans (p1.cons _),.inl ⟨rfl,?_⟩,.refl _⟩,⟨2,joinE 2 x w,y,q,e2.trans (p2.cons _),.inl ⟨rfl,?_⟩,?_⟩⟩
  ·show w.pair = ⟨x.pair.from_,y.pair.to_⟩
   rw [c2,c1]
  ·show y.pair = ⟨x.pair.from_,w.pair.to_⟩
   rw [c2,c1]
  ·have:joinE 2 (joinE 2 x y) w = joinE 2 (joinE 2 x w) y:=by
    have ha:J 2 (J 2 x.t_ y.t_) w.t_ = J 2 (J 2 x.t_ w.t_) y.t_:=Zkh g1 g2 g4 g3
    simp only [joinE,ha,c1,c2]
   rw [this]
theorem ZcC {x y w:ReduceEdge} {r s a b:List ReduceEdge} (hi:PInv len rank l) (h1:l.Perm (x :: y :: r)) (c1:CondP 1 x y r) (e1:a.Perm (joinE 1 x y :: r)) (h2:l.Perm (y :: w :: s)) (c2:CondP 1 y w s) (e2:b.Perm (joinE 1 y w :: s)) (hwx:w ≠ x) :
 ∃ c,RedP a c /\ RedP b c:=by
 obtain ⟨q,p1,p2⟩:=ZdD hi.nodup (swap2 h1) h2 hwx
 have hi3:PInv len rank (x :: y :: w :: q):=hi.perm (h1.trans ((p1.cons y).cons x))
 obtain ⟨g1,g2,_⟩:=hi3.two
 obtain ⟨g3,g4⟩:=hi3.three
 have c1:=c1.perm p1
 have c2:=c2.perm p2
 rcases c1 with ⟨h,_⟩ | ⟨_,a2,a3,a4,a5,a6⟩
 ·cases h
 rcases c2 with ⟨h,_⟩ | ⟨_,b2,b3,b4,b5,b6⟩
 ·cases h
 refine ⟨joinE 1 (joinE 1 x y) w :: q,⟨1,joinE 1 x y,w,q,e1.trans (p1.cons _),.inr ⟨rfl,b2,b3,b4,fun e he=>?_,fun e he=>?_⟩,.refl _⟩,⟨1,x,joinE 1 y w,q,?_,.inr ⟨rfl,a2,a3,a4,fun e he=>?_,fun e he=>?_⟩,?_⟩⟩
 ·rcases List.mem_cons.1 he with rfl | he
  ·exact b5 _ (by simp)
  ·exact b5 e (by simp [he])
 ·rcases List.mem_cons.1 he with rfl | he
  ·exact b6 x (by simp)
  ·exact b6 e (by simp [he])
 ·exact e2.trans ((p2.cons _).trans (List.Perm.swap _ _ _))
 ·rcases List.mem_cons.1 he with rfl | he
  ·exact a5 w (by simp)
  ·exact a5 e (by simp [he])
 ·rcases List.mem_cons.1 he with rfl | he
  ·exact a6 _ (by simp)
  ·exact a6 e (by simp [he])
 ·have:joinE 1 (joinE 1 x y) w = joinE 1 x (joinE 1 y w):=by
   have ha:J 1 (J 1 x.t_ y.t_) w.t_ = J 1 x.t_ (J 1 y.t_ w.t_):=Zkj g1 g2 g4 g3
   simp only [joinE,ha]
  rw [this]
theorem ZgC {x y:ReduceEdge} {r:List ReduceEdge} (hi:PInv len rank (x :: y :: r)) (hp:y.pair = x.pair):joinE 2 x y = joinE 2 y x:=by
 obtain ⟨g1,g2,g3⟩:=hi.two
 simp only [joinE,Zku g1 g2 g3,hp]
theorem ZkQ {a b:List ReduceEdge} (hi:PInv len rank l) (h:RedP l a) (k:RedP l b):a.Perm b \/ ∃ c,RedP a c /\ RedP b c:=by
 obtain ⟨K,x,y,r,h1,c1,e1⟩:=h
 obtain ⟨K',z,w,s,h2,c2,e2⟩:=k
 have hl:=hi.nodup
 by_cases hap:z ≠ x /\ z ≠ y /\ w ≠ x /\ w ≠ y
 ·exact .inr (Zfw hl h1 c1 e1 h2 c2 e2 hap.1 hap.2.1 hap.2.2.1 hap.2.2.2)
 have hnx:=h1.nodup_iff.1 hl
 have hnz:=h2.nodup_iff.1 hl
 have hxy:x ≠ y:=fun e=>by rw [List.nodup_cons] at hnx; exact hnx.1 (by simp [e])
 have hzw:z ≠ w:=fun e=>by rw [List.nodup_cons] at hnz; exact hnz.1 (by simp [e])
 have inz:∀ e,e ∈ l -> e ≠ z -> e ∈ w :: s:=fun e he hne=>by
  have:=h2.subset he
  rcases List.mem_cons.1 this with h | h
  ·exact absurd h hne
  ·exact h
 have inw:∀ e,e ∈ l -> e ≠ w -> e ∈ z :: s:=fun e he hne=>by
  have:=(swap2 h2).subset he
  rcases List.mem_cons.1 this with h | h
  ·exact absurd h hne
  ·exact h
 have inx:∀ e,e ∈ l -> e ≠ x -> e ∈ y :: r:=fun e he hne=>by
  have:=h1.subset he
  rcases List.mem_cons.1 this with h | h
  ·exact absurd h hne
  ·exact h
 have iny:∀ e,e ∈ l -> e ≠ y -> e ∈ x :: r:=fun e he hne=>by
  have:=(swap2 h1).subset he
  rcases List.mem_cons.1 this with h | h
  ·exact absurd h hne
  ·exact h
 have lx:x ∈ l:=h1.symm.subset (by simp)
 have ly:y ∈ l:=h1.symm.subset (by simp)
 have lz:z ∈ l:=h2.symm.subset (by simp)
 have lw:w ∈ l:=h2.symm.subset (by simp)
 rcases c1 with ⟨rfl,hp⟩ | ⟨rfl,a2,a3,a4,a5,a6⟩
 ·rcases c2 with ⟨rfl,hp2⟩ | ⟨rfl,b2,b3,b4,b5,b6⟩
  ·-- parallel,parallel
   have e1':a.Perm (joinE 2 y x :: r):=by rw [<- ZgC (hi.perm h1) hp]; exact e1
   have e2':b.Perm (joinE 2 w z :: s):=by rw [<- ZgC (hi.perm h2) hp2]; exact e2
   by_cases q1:z = x
   ·subst q1; exact Z7D hi h1 hp e1 h2 hp2 e2
   by_cases q2:z = y
   ·subst q2; exact Z7D hi (swap2 h1) hp.symm e1' h2 hp2 e2
   by_cases q3:w = x
   ·subst q3; exact Z7D hi h1 hp e1 (swap2 h2) hp2.symm e2'
   by_cases q4:w = y
   ·subst q4; exact Z7D hi (swap2 h1) hp.symm e1' (swap2 h2) hp2.symm e2'
   exact absurd ⟨q1,q2,q3,q4⟩ hap
  ·-- parallel,series: always apart
   exfalso
   refine hap ⟨fun e=>?_,fun e=>?_,fun e=>?_,fun e=>?_⟩
   ·subst e; exact b5 y (inz y ly (Ne.symm hxy)) (by rw [hp])
   ·subst e; exact b5 x (inz x lx hxy) (by rw [hp])
   ·subst e; exact b6 y (inw y ly (Ne.symm hxy)) (by rw [hp]; exact b2)
   ·subst e; exact b6 x (inw x lx hxy) (by rw [<- hp]; exact b2)
 ·rcases c2 with ⟨rfl,hp2⟩ | ⟨rfl,b2,b3,b4,b5,b6⟩
  ·exfalso
   refine hap ⟨fun e=>?_,fun e=>?_,fun e=>?_,fun e=>?_⟩
   ·subst e; exact a5 w (inx w lw (Ne.symm hzw)) (by rw [hp2])
   ·subst e; exact a6 w (iny w lw (Ne.symm hzw)) (by rw [hp2]; exact a2)
   ·subst e; exact a5 z (inx z lz hzw) (by rw [hp2])
   ·subst e; exact a6 z (iny z lz hzw) (by rw [<- hp2]; exact a2)
  ·-- series,series
   have C1:CondP 1 x y r:=.inr ⟨rfl,a2,a3,a4,a5,a6⟩
   have C2:CondP 1 z w s:=.inr ⟨rfl,b2,b3,b4,b5,b6⟩
   by_cases hv:z.pair.to_ = x.pair.to_
   ·have q1:z = x:=Classical.byContradiction fun hne=>a5 z (inx z lz hne) hv
    have q2:w = y:=Classical.byContradiction fun hne=>a6 w (iny w lw hne) (by rw [b2,hv])
    subst q1; subst q2
    left
    have:r.Perm s:=by
     have:=h1.symm.trans h2
     exact ((List.perm_cons z).1 this |> (List.perm_cons w).1)
    exact e1.trans ((this.cons _).trans e2.symm)
   ·have q1:z ≠ x:=fun e=>hv (by rw [e])
    have q4:w ≠ y:=fun e=>hv (by rw [<- b2,e,a2])
    right
    by_cases q2:z = y
    ·subst q2
     refine ZcC hi h1 C1 e1 h2 C2 e2 (fun e=>?_)
     subst e
     have r1:=hi.rk _ lx
     have r2:=hi.rk _ ly
     rw [a2] at r2; rw [b2] at r1
     omega
    ·by_cases q3:w = x
     ·subst q3
      obtain ⟨c,d1,d2⟩:=ZcC hi h2 C2 e2 h1 C1 e1 (fun e=>q2 e.symm)
      exact ⟨c,d2,d1⟩
     ·exact absurd ⟨q1,q2,q3,q4⟩ hap
inductive StepsP:List ReduceEdge -> List ReduceEdge -> Prop
 | refl {l m:List ReduceEdge} (h:l.Perm m):StepsP l m
 | head {l a m:List ReduceEdge} (h:RedP l a) (k:StepsP a m):StepsP l m
def NormalP (m:List ReduceEdge):Prop:=∀ m',¬ RedP m m'
theorem NormalP.perm {m m':List ReduceEdge} (h:NormalP m) (p:m.Perm m'):NormalP m':=fun q hq=>h q (hq.of_perm p.symm)
theorem StepsP.of_perm {l2 m:List ReduceEdge} (h:StepsP l m) (p:l.Perm l2):StepsP l2 m:=by
 cases h with
 | refl h=>exact .refl (p.symm.trans h)
 | head h k=>exact .head (h.of_perm p) k
theorem StepsP.tail {m m':List ReduceEdge} (h:StepsP l m) (k:RedP m m'):StepsP l m':=by
 induction h with
 | refl h=>exact .head (k.of_perm h.symm) (.refl (.refl _))
 | head h _ ih=>exact .head h (ih k)
theorem StepsP.trans {m m':List ReduceEdge} (h:StepsP l m) (k:StepsP m m'):StepsP l m':=by
 induction h with
 | refl h=>exact k.of_perm h.symm
 | head h _ ih=>exact .head h (ih k)
theorem PInv.steps {m:List ReduceEdge} (h:PInv len rank l) (k:StepsP l m):PInv len rank m:=by
 induction k with
 | refl p=>exact h.perm p
 | head a _ ih=>exact ih (h.red a)
theorem Zjb:∀ (n:Nat) (l:List ReduceEdge),l.length <= n -> ∃ m,StepsP l m /\ NormalP m:=by
 intro n
 induction n with
 | zero =>
   intro l h
   refine ⟨l,.refl (.refl _),fun m hm=>?_⟩
   have:=hm.length; omega
 | succ n ih =>
   intro l h
   by_cases hn:NormalP l
   ·exact ⟨l,.refl (.refl _),hn⟩
   ·obtain ⟨a,ha⟩:=Classical.not_forall.1 hn
    have ha:=Classical.not_not.1 ha
    obtain ⟨m,h1,h2⟩:=ih a (by have:=ha.length; omega)
    exact ⟨m,.head ha h1,h2⟩
theorem Zin:∀ (n:Nat) {l m m':List ReduceEdge},l.length <= n -> PInv len rank l -> StepsP l m -> NormalP m -> StepsP l m' -> NormalP m' -> m.Perm m':=by
 intro n
 induction n with
 | zero =>
   intro l m m' hn _ h1 _ h2 _
   cases h1 with
   | head h _=>have:=h.length; omega
   | refl p1 =>
     cases h2 with
     | head h _=>have:=h.length; omega
     | refl p2=>exact p1.symm.trans p2
 | succ n ih =>
   intro l m m' hn hi h1 n1 h2 n2
   cases h1 with
   | refl p1 =>
     cases h2 with
     | refl p2=>exact p1.symm.trans p2
     | head h _=>exact absurd (h.of_perm p1) (n1 _)
   | @head _ a _ ha ka =>
    cases h2 with
    | refl p2=>exact absurd (ha.of_perm p2) (n2 _)
    | @head _ b _ hb kb =>
     have la:a.length <= n:=by have:=ha.length; omega
     have lb:b.length <= n:=by have:=hb.length; omega
     rcases ZkQ hi ha hb with p | ⟨c,d1,d2⟩
     ·exact ih la (hi.red ha) ka n1 (kb.of_perm p.symm) n2
     ·obtain ⟨w,w1,w2⟩:=Zjb c.length c (Nat.le_refl _)
      have q1:=ih la (hi.red ha) ka n1 (.head d1 w1) w2
      have q2:=ih lb (hi.red hb) kb n2 (.head d2 w1) w2
      exact q1.trans q2.symm
end
end Go.G
namespace Go.G
open Go.Av
def canE (e:ReduceEdge):ReduceEdge:=⟨e.pair,Z5 e.t_⟩
def canon (l:List ReduceEdge):List ReduceEdge:=l.map canE
theorem ZgF {α:Type} {l:List α} {i j:Nat} {x y:α} (a:α) (hx:l[i]? = some x) (hy:l[j]? = some y) (hij:i ≠ j):∃ r,l.Perm (x :: y :: r) /\ ((l.set i a).eraseIdx j).Perm (a :: r) /\ (y :: r).Perm (l.eraseIdx i) /\ (x :: r).Perm (l.eraseIdx j):=by
 have h1:(l.set i a)[j]? = some y:=by rw [List.getElem?_set_ne hij]; exact hy
 have p1:=Z3o h1
 have p2:=Zam a hx
 have p3:=Z3o hx
 have p4:=Z3o hy
 have my:y ∈ l.eraseIdx i:=by
  rw [List.mem_eraseIdx_iff_getElem?]
  exact ⟨j,fun e=>hij e.symm,hy⟩
 have ex:∀ {l:List α},y ∈ l -> ∃ r,l.Perm (y :: r):=by
  intro l
  induction l with
  | nil=>intro h; cases h
  | cons b l ih =>
    intro h
    rcases List.mem_cons.1 h with rfl | h
    ·exact ⟨l,.refl _⟩
    ·obtain ⟨r,hr⟩:=ih h
     exact ⟨b :: r,(hr.cons b).trans (List.Perm.swap _ _ _)⟩
 obtain ⟨r,hr⟩:=ex my
 refine ⟨r,p3.trans (hr.cons x),?_,hr.symm,?_⟩
 ·have:(y :: (l.set i a).eraseIdx j).Perm (y :: a :: r):=(p1.symm.trans p2).trans ((hr.cons a).trans (List.Perm.swap _ _ _))
  exact (List.perm_cons y).1 this
 ·have:(y :: x :: r).Perm (y :: l.eraseIdx j):=((List.Perm.swap x y r).trans ((hr.symm.cons x).trans p3.symm)).trans p4
  exact (List.perm_cons y).1 this
theorem Z9t {len:Nat} {rank:Str -> Nat} {l:List ReduceEdge} (h:RInv len rank l):PInv len rank l:=⟨h.ok,h.lv,h.rk⟩
theorem ZjI {len:Int} {rank:Str -> Nat} {l:List ReduceEdge} (h:PInv len rank l):PInv len rank (canon l):=by
 refine ⟨fun e he=>?_,?_,fun e he=>?_⟩
 ·obtain ⟨d,hd,rfl⟩:=List.mem_map.1 he
  exact Z6Y (h.ok d hd)
 ·have:∀ l:List ReduceEdge,((canon l).flatMap fun e=>lv e.t_).Perm (l.flatMap fun e=>lv e.t_):=by
   intro l
   induction l with
   | nil=>exact .refl _
   | cons e l ih=>exact (Z57 e.t_).append ih
  exact (this l).nodup_iff.2 h.nd
 ·obtain ⟨d,hd,rfl⟩:=List.mem_map.1 he
  exact h.rk d hd
theorem Red.canon {len:Nat} {rank:Str -> Nat} {l l':List ReduceEdge} (hi:RInv len rank l) (h:Red l l'):RedP (canon l) (canon l'):=by
 cases h with
 | @par i j x y hx hy hij hp =>
  obtain ⟨r,p1,p2,_,_⟩:=ZgF (⟨x.pair,joinT 2 x.t_ y.t_⟩:ReduceEdge) hx hy (by omega)
  obtain ⟨g1,g2,g3⟩:=((Z9t hi).perm p1).two
  refine ⟨2,canE x,canE y,r.map canE,p1.map canE,.inl ⟨rfl,hp⟩,?_⟩
  have e:joinE 2 (canE x) (canE y) = canE ⟨x.pair,joinT 2 x.t_ y.t_⟩:=by
   show ReduceEdge.mk ⟨x.pair.from_,y.pair.to_⟩ (J 2 (Z5 x.t_) (Z5 y.t_)) = ⟨x.pair,Z5 (joinT 2 x.t_ y.t_)⟩
   rw [ZgG g1 g2 (.inr rfl) g3,hp]; rfl
  rw [e]
  exact p2.map canE
 | @ser i j x y hx hy hL hR hyf hto hfr =>
  have r1:=hi.rk _ (List.mem_of_getElem? hx)
  have hij:i ≠ j:=fun e=>by
   subst e
   rw [hx] at hy; cases hy
   rw [hyf] at r1; omega
  obtain ⟨r,p1,p2,p3,p4⟩:=ZgF (⟨⟨x.pair.from_,y.pair.to_⟩,joinT 1 x.t_ y.t_⟩:ReduceEdge) hx hy hij
  obtain ⟨g1,g2,g3⟩:=((Z9t hi).perm p1).two
  refine ⟨1,canE x,canE y,r.map canE,p1.map canE,.inr ⟨rfl,hyf,hL,hR,fun e he=>?_,fun e he=>?_⟩,?_⟩
  ·have:e ∈ (y :: r).map canE:=he
   obtain ⟨d,hd,rfl⟩:=List.mem_map.1 this
   obtain ⟨k,hk,hg⟩:=List.mem_eraseIdx_iff_getElem?.1 (p3.subset hd)
   exact fun q=>hk (hto k d hg q)
  ·have:e ∈ (x :: r).map canE:=he
   obtain ⟨d,hd,rfl⟩:=List.mem_map.1 this
   obtain ⟨k,hk,hg⟩:=List.mem_eraseIdx_iff_getElem?.1 (p4.subset hd)
   exact fun q=>hk (hfr k d hg q)
  ·have e:joinE 1 (canE x) (canE y) = canE ⟨⟨x.pair.from_,y.pair.to_⟩,joinT 1 x.t_ y.t_⟩:=by
    show ReduceEdge.mk ⟨x.pair.from_,y.pair.to_⟩ (J 1 (Z5 x.t_) (Z5 y.t_)) = ⟨⟨x.pair.from_,y.pair.to_⟩,Z5 (joinT 1 x.t_ y.t_)⟩
    rw [ZgG g1 g2 (.inl rfl) g3]; rfl
   rw [e]
   exact p2.map canE
theorem Reds.canon {len:Nat} {rank:Str -> Nat} {l l':List ReduceEdge} (hi:RInv len rank l) (h:Reds l l'):StepsP (canon l) (canon l'):=by
 induction h with
 | refl=>exact .refl (.refl _)
 | tail h1 k ih=>exact ih.tail (Red.canon (hi.reds h1) k)
structure NF (l:List ReduceEdge):Prop where
 par:l.Pairwise fun a b=>a.pair ≠ b.pair
 ser:∀ x ∈ l,x.pair.to_ = strLL \/ x.pair.to_ = strRR \/ l.countP (fun e=>decide (e.pair.to_ = x.pair.to_)) ≠ 1 \/ l.countP (fun e=>decide (e.pair.from_ = x.pair.to_)) ≠ 1
theorem Zco {l:List ReduceEdge} {p:ReduceEdge -> Bool} (h:∀ e ∈ l,p e = false):l.countP p = 0:=by
 rw [List.countP_eq_zero]
 intro e he; rw [h e he]; simp
theorem NF.normal {l:List ReduceEdge} (h:NF l):NormalP (canon l):=by
 rintro m ⟨K,x,y,r,p,c,_⟩
 have hpw:(canon l).Pairwise fun a b=>a.pair ≠ b.pair:=List.pairwise_map.2 h.par
 have hpw:=hpw.perm p (fun h=>Ne.symm h)
 rcases c with ⟨_,hp⟩ | ⟨_,hf,hL,hR,hto,hfr⟩
 ·rw [List.pairwise_cons] at hpw
  exact hpw.1 y (by simp) hp.symm
 ·have mx:x ∈ canon l:=p.symm.subset (by simp)
  obtain ⟨d,hd,rfl⟩:=List.mem_map.1 mx
  have ct:l.countP (fun e=>decide (e.pair.to_ = d.pair.to_)) = 1:=by
   have e1:l.countP (fun e=>decide (e.pair.to_ = d.pair.to_)) = (canon l).countP (fun e=>decide (e.pair.to_ = d.pair.to_)):=by
    rw [canon,List.countP_map]; rfl
   rw [e1,p.countP_eq,List.countP_cons,Zco (p:=fun e=>decide (e.pair.to_ = d.pair.to_)) (fun e he=>decide_eq_false (hto e he))]
   simp [canE]
  have cf:l.countP (fun e=>decide (e.pair.from_ = d.pair.to_)) = 1:=by
   have e1:l.countP (fun e=>decide (e.pair.from_ = d.pair.to_)) = (canon l).countP (fun e=>decide (e.pair.from_ = d.pair.to_)):=by
    rw [canon,List.countP_map]; rfl
   have p':(canon l).Perm (y :: canE d :: r):=p.trans (List.Perm.swap _ _ _)
   rw [e1,p'.countP_eq,List.countP_cons,Zco (p:=fun e=>decide (e.pair.from_ = d.pair.to_)) (fun e he=>decide_eq_false (hfr e he))]
   have:y.pair.from_ = d.pair.to_:=hf
   simp [this]
  rcases h.ser d hd with q | q | q | q
  ·exact hL q
  ·exact hR q
  ·exact q ct
  ·exact q cf
theorem Zf4 (n s:Nat) (l:List ReduceEdge) (x:ReduceEdge) (hs:l.length <= 1000000000):∀ (m i:Nat),i <= l.length - s -> l.length - s - i < m ->
 ∃ r:Int,Zl n s l x m (i:Int) = some r /\ (r < 0 -> ∀ (k:Nat) (y:ReduceEdge),s + i <= k -> l[k]? = some y -> x.pair ≠ y.pair)
 | 0,i,h,hm=>absurd hm (Nat.not_lt_zero _)
 | m + 1,i,h,hm=>by
   rw [Zl]
   by_cases hi:i < l.length - s
   ·obtain ⟨y,hy⟩:=Z8 (l:=l.drop s) (i:=i) (by simpa using hi)
    have hy':l[s + i]? = some y:=by rw [<- List.getElem?_drop]; exact hy
    rw [if_pos (by simpa using hi),Z2,hy,Option.bind_some,Zgr,Option.bind_some]
    by_cases hp:y.pair = x.pair
    ·rw [if_pos (by simpa using hp)]
     exact ⟨_,rfl,fun h=>absurd h (by omega)⟩
    ·rw [if_neg (by simpa using hp),wrapN (by omega)]
     obtain ⟨r,a1,a2⟩:=Zf4 n s l x hs m (i + 1) (by omega) (by omega)
     refine ⟨r,a1,fun hr k z hk hz=>?_⟩
     rcases Nat.lt_or_ge (s + i) k with g | g
     ·exact a2 hr k z (by omega) hz
     ·have:k = s + i:=by omega
      subst this
      rw [hy'] at hz; cases hz
      exact fun e=>hp e.symm
   ·rw [if_neg (by simpa using hi)]
    exact ⟨_,rfl,fun _ k y hk hy=>by have:=Zd hy; omega⟩
section
variable {len:Nat} {rank:Str -> Nat} (hlen:len <= 1000000) (n:Nat) (hn:2 * len + 10 <= n)
include hlen hn
theorem Zfb {l:List ReduceEdge} (h:RInv len rank l):∀ (m i:Nat) (l':List ReduceEdge),i <= l.length -> l.length - i < m ->
 Z1e n l m (i:Int) = some (false,l') -> (l.drop i).Pairwise fun a b=>a.pair ≠ b.pair
 | 0,i,l',h,hm,_=>absurd hm (Nat.not_lt_zero _)
 | m + 1,i,l',hi0,hm,he=>by
   have hl:=h.len
   rw [Z1e] at he
   by_cases hi:i < l.length
   ·obtain ⟨x,hx⟩:=Z8 hi
    have mx:=List.mem_of_getElem? hx
    obtain ⟨r,hr,hcase⟩:=Zd1 n (i + 1) l x (by omega) n 0 (by omega) (by omega)
    obtain ⟨r',hr',hnone⟩:=Zf4 n (i + 1) l x (by omega) n 0 (by omega) (by omega)
    rw [hr] at hr'; cases hr'
    have hidx:Z12 n (i + 1) l x = some r:=hr
    rw [if_pos (by simpa using hi),Z2,hx,Option.bind_some,wrapN (by omega),if_pos (by omega),Int.toNat_natCast,hidx,Option.bind_some] at he
    rcases hcase with rfl | ⟨k,y,rfl,hy,hp⟩
    ·rw [if_neg (by decide)] at he
     rw [Z9 hx,List.pairwise_cons]
     refine ⟨fun y hy=>?_,Zfb h m (i + 1) l' (by omega) (by omega) he⟩
     obtain ⟨k,hk⟩:=List.getElem?_of_mem hy
     rw [List.getElem?_drop] at hk
     exact hnone (by decide) _ y (by omega) hk
    ·have hj:=Zd hy
     have my:=List.mem_of_getElem? hy
     have s1:=h.szT mx
     have s2:=h.szT my
     rw [if_pos (by simp),wrapI (by omega) (by omega),show ((i + 1:Nat):Int) + (k:Int) = ((i + 1 + k:Nat):Int) by omega,Z2,hy,Option.bind_some,ZbW n 2 _ _ (by omega) (by omega) (by omega),Option.bind_some,Option.bind_some] at he
     rw [wrapI (i:=(i:Int) + 2) (by omega) (by omega),wrapI (i:=(i:Int) + 2 + (k:Int)) (by omega) (by omega),show (i:Int) + 2 + (k:Int) = ((i + 1 + k + 1:Nat):Int) by omega,Int.toNat_natCast] at he
     rw [ZdU n _ (i + 1 + k) (by rw [List.length_set]; exact hj),Option.bind_some] at he
     simp at he
   ·rw [List.drop_eq_nil_of_le (by omega)]; exact .nil
theorem Zfl {l:List ReduceEdge} (h:RInv len rank l):∀ (m i:Nat) (l':List ReduceEdge),i <= l.length -> l.length - i < m ->
 Zq n l m (i:Int) = some (false,l') -> ∀ x ∈ l.drop i,x.pair.to_ = strLL \/ x.pair.to_ = strRR \/ l.countP (fun e=>decide (e.pair.to_ = x.pair.to_)) ≠ 1 \/ l.countP (fun e=>decide (e.pair.from_ = x.pair.to_)) ≠ 1
 | 0,i,l',h,hm,_=>absurd hm (Nat.not_lt_zero _)
 | m + 1,i,l',hi0,hm,he=>by
   have hl:=h.len
   rw [Zq] at he
   by_cases hi:i < l.length
   ·obtain ⟨x,hx⟩:=Z8 hi
    have mx:=List.mem_of_getElem? hx
    have ih:=fun he'=>Zfl h m (i + 1) l' (by omega) (by omega) he'
    rw [if_pos (by simpa using hi),Z2,hx,Option.bind_some,wrapN (by omega)] at he
    rw [Z9 hx]
    have fin:Zq n l m ((i + 1:Nat):Int) = some (false,l') -> (x.pair.to_ = strLL \/ x.pair.to_ = strRR \/ l.countP (fun e=>decide (e.pair.to_ = x.pair.to_)) ≠ 1 \/ l.countP (fun e=>decide (e.pair.from_ = x.pair.to_)) ≠ 1) ->
     ∀ z ∈ x :: l.drop (i + 1),z.pair.to_ = strLL \/ z.pair.to_ = strRR \/ l.countP (fun e=>decide (e.pair.to_ = z.pair.to_)) ≠ 1 \/ l.countP (fun e=>decide (e.pair.from_ = z.pair.to_)) ≠ 1:=fun h1 h2 z hz=>by
     rcases List.mem_cons.1 hz with rfl | hz
     ·exact h2
     ·exact ih h1 z hz
    by_cases hL:x.pair.to_ = (⟨#[76]⟩:Str)
    ·rw [if_pos (by simpa using hL)] at he; exact fin he (.inl hL)
    rw [if_neg (by simpa using hL)] at he
    by_cases hR:x.pair.to_ = (⟨#[82]⟩:Str)
    ·rw [if_pos (by simpa using hR)] at he; exact fin he (.inr (.inl hR))
    rw [if_neg (by simpa using hR)] at he
    obtain ⟨on,e1,e2⟩:=Z8O n l (by omega) (i:Int) (Zq n l m) x n 0 0 (by omega) (by omega) (by simp)
    simp only [List.take_zero,List.countP_nil,Int.natCast_zero] at e1
    rw [e1,Z1W,wrapN (i:=i) (by omega)] at he
    by_cases c1:l.countP (fun e=>decide (e.pair.to_ = x.pair.to_)) = 1
    ·rw [if_pos (by simpa using by omega)] at he
     by_cases c2:l.countP (fun e=>decide (e.pair.from_ = x.pair.to_)) = 1
     ·rw [if_pos (by simpa using by omega)] at he
      obtain ⟨y,hy,hyf⟩:=e2 (by omega)
      have hj:=Zd hy
      have my:=List.mem_of_getElem? hy
      have s1:=h.szT mx
      have s2:=h.szT my
      rw [Z2,hy,Option.bind_some,ZbW n 1 _ _ (by omega) (by omega) (by omega),Option.bind_some,Option.bind_some,wrapN (i:=on) (by omega),Int.toNat_natCast,ZdU n _ on (by rw [List.length_set]; exact hj),Option.bind_some] at he
      simp at he
     ·rw [if_neg (by simpa using by omega)] at he; exact fin he (.inr (.inr (.inr c2)))
    ·rw [if_neg (by simpa using by omega)] at he; exact fin he (.inr (.inr (.inl c1)))
   ·rw [List.drop_eq_nil_of_le (by omega)]; intro x hx; cases hx
theorem Zb6:∀ (m:Nat) (l:List ReduceEdge),RInv len rank l -> l.length + 2 <= m -> ∃ l',Reds l l' /\ NF l' /\ Z1c n m l true = Z2y n l'
 | 0,l,h,hm=>absurd hm (by omega)
 | m + 1,l,h,hm=>by
   rw [Z1c]
   have hl:=h.len
   rw [if_pos rfl]
   obtain ⟨b1,l1,p1,q1⟩:=ZcS hlen n hn h n 0 (by omega) (by omega)
   have n1:=Zfb hlen n hn h n 0 l1 (by omega) (by omega)
   rw [p1] at n1
   have p1:Z3w n l = some (b1,l1):=p1
   rw [p1,Option.bind_some]
   dsimp only
   have h1:RInv len rank l1 /\ Reds l l1 /\ l1.length <= l.length /\ (b1 = true -> l1.length + 1 = l.length):=by
    rcases q1 with ⟨rfl,rfl⟩ | ⟨rfl,q⟩
    ·exact ⟨h,.refl,Nat.le_refl _,fun e=>by cases e⟩
    ·exact ⟨h.red q,.tail .refl q,by have:=q.length; omega,fun _=>q.length⟩
   obtain ⟨i1,s1,z1,z1'⟩:=h1
   have hl1:=i1.len
   obtain ⟨b2,l2,p2,q2⟩:=ZcT hlen n hn i1 n 0 (by omega) (by omega)
   have n2:=Zfl hlen n hn i1 n 0 l2 (by omega) (by omega)
   rw [p2] at n2
   have p2:Z4n n l1 = some (b2,l2):=p2
   rw [p2,Option.bind_some]
   dsimp only
   have h2:RInv len rank l2 /\ Reds l1 l2 /\ l2.length <= l1.length /\ (b2 = true -> l2.length + 1 = l1.length):=by
    rcases q2 with ⟨rfl,rfl⟩ | ⟨rfl,q⟩
    ·exact ⟨i1,.refl,Nat.le_refl _,fun e=>by cases e⟩
    ·exact ⟨i1.red q,.tail .refl q,by have:=q.length; omega,fun _=>q.length⟩
   obtain ⟨i2,s2,z2,z2'⟩:=h2
   cases b1 with
   | true =>
     rw [if_pos rfl]
     obtain ⟨l',t1,t2,t3⟩:=Zb6 m l2 i2 (by have:=z1' rfl; omega)
     exact ⟨l',(s1.trans s2).trans t1,t2,t3⟩
   | false =>
     rw [if_neg (by simp)]
     cases b2 with
     | true =>
       obtain ⟨l',t1,t2,t3⟩:=Zb6 m l2 i2 (by have:=z2' rfl; omega)
       exact ⟨l',(s1.trans s2).trans t1,t2,t3⟩
     | false =>
       obtain ⟨q,rfl⟩:∃ q,m = q + 1:=⟨m - 1,by omega⟩
       rcases q1 with ⟨_,rfl⟩ | ⟨h,_⟩
       ·rcases q2 with ⟨_,rfl⟩ | ⟨h,_⟩
        ·exact ⟨l2,.refl,⟨by simpa using n1 rfl,fun x hx=>n2 rfl x (by simpa using hx)⟩,by rw [Z1c,if_neg (by simp)]⟩
        ·cases h
       ·cases h
end
def redC:List ReduceEdge -> TreeTree × Int
 | [x]=>if x.pair.from_ = strLL /\ x.pair.to_ = strRR then (x.t_,0) else (.mk 0 0 [],14)
 | _=>(.mk 0 0 [],14)
theorem ZiL {m m':List ReduceEdge} (p:m.Perm m'):redC m = redC m':=by
 match m,m',p with
 | [],m',p=>rw [List.nil_perm.1 p]
 | [x],m',p=>rw [List.singleton_perm.1 p]
 | x :: y :: l,m',p =>
   have:=p.length_eq
   match m',this with
   | a :: b :: l',_=>rfl
theorem Zec (l:List ReduceEdge):redS l = redC (canon l):=by
 match l with
 | []=>rfl
 | [x]=>rfl
 | x :: y :: l=>rfl
theorem Zha (n:Nat) (r:ApiRung) (hl:r.Contacts.length <= 1000000) (hn:2 * r.Contacts.length + 10 <= n) (hc:Z58 n r = some 0) {rank:Str -> Nat} (hrk:∀ c ∈ r.Contacts,rank c.From < rank c.To)
 {m:List ReduceEdge} (hm:StepsP (canon (Z1z r.Contacts 0)) m) (hN:NormalP m):Z14 n r = some (redC m):=by
 have h0:=RInv.start r.Contacts rank hrk
 rw [Z14,hc,Option.bind_some,if_neg (by simp),show (0:Int) = ((0:Nat):Int) from rfl,Z9M n r hl n 0 [] (by omega) (by omega) rfl,List.drop_zero,List.nil_append,Z3a]
 obtain ⟨l,h1,h2,h3⟩:=Zb6 (rank:=rank) hl n hn n (Z1z r.Contacts 0) h0 (by rw [Z88]; omega)
 rw [h3,J2_eq hl n hn (h0.reds h1),Zec]
 congr 1
 refine ZiL ?_
 exact Zin _ (Nat.le_refl _) (ZjI (Z9t h0)) (Reds.canon h0 h1) h2.normal hm hN
end Go.G

/- What the check of a rung's graph answers, exactly. No law is proved here. -/
import Derived.Test.YtaebdeidbibfkaaGreatDoorILawM11
import Derived.Test.YtaebdeidbibfkaaGreatDoorIGc
set_option linter.unusedSimpArgs false
set_option linter.unusedVariables false
set_option linter.unusedSectionVars false
namespace Go.G
open Go.Av
def Z4C (cs:List ApiContact) (x:Str):Prop:=x = strLL \/ x = strRR \/ ∃ c ∈ cs,x = c.From \/ x = c.To
theorem Z9N (P:Str -> Prop) (p:Int) (R:Int -> List Str -> List (Str × Bool) -> Option (List Str)) (pr:List Str) (hpr:∀ x ∈ pr,P x) (res:List Str)
 (hR:∀ l m,(∀ x ∈ l,P x) -> R (IntKind.i64.wrap (p + 1)) l m = some res -> ∀ x ∈ res,P x):∀ (q k:Nat) (l:List Str) (m:List (Str × Bool)),(∀ x ∈ l,P x) -> k <= pr.length -> pr.length <= 1000 -> Z1h p R pr q (k:Int) l m = some res -> ∀ x ∈ res,P x
 | 0,k,l,m,_,_,_,h=>by rw [Z1h] at h; cases h
 | q + 1,k,l,m,hl,hk0,hp,h=>by
   rw [Z1h] at h
   by_cases hk:k < pr.length
   ·obtain ⟨x,hx⟩:=Z8 hk
    rw [if_pos (by simpa using hk),Z2,hx,Option.bind_some,wrapN (by omega)] at h
    split at h
    ·split at h
     ·rw [Option.bind_some] at h
      refine Z9N P p R pr hpr res hR q (k + 1) _ _ (fun y hy=>?_) (by omega) hp h
      rcases List.mem_append.1 hy with hy | hy
      ·exact hl y hy
      ·rw [List.mem_singleton] at hy; subst hy; exact hpr _ (List.mem_of_getElem? hx)
     ·cases h
    ·exact Z9N P p R pr hpr res hR q (k + 1) _ _ hl (by omega) hp h
   ·rw [if_neg (by simpa using hk)] at h
    exact hR l m hl h
theorem Zdr (P:Str -> Prop) (n:Nat) (r:ApiRung) (hs:r.Contacts.length <= 1000000) (hr:∀ c ∈ r.Contacts,P c.From /\ P c.To) (res:List Str):∀ (q i:Nat) (l:List Str) (m:List (Str × Bool)),(∀ x ∈ l,P x) -> i <= r.Contacts.length -> ZU n r q (i:Int) l m = some res -> ∀ x ∈ res,P x
 | 0,i,l,m,_,_,h=>by rw [ZU] at h; cases h
 | q + 1,i,l,m,hl,hi0,h=>by
   rw [ZU] at h
   by_cases hk:i < r.Contacts.length
   ·obtain ⟨c,hc⟩:=Z8 hk
    have hm:=hr c (List.mem_of_getElem? hc)
    rw [if_pos (by simpa using hk),Z2,hc,Option.bind_some,Option.bind_some,show (0:Int) = ((0:Nat):Int) from rfl] at h
    refine Z9N P (i:Int) (ZU n r q) [c.From,c.To] (fun x hx=>?_) res (fun l m hl h=>?_) n 0 l m hl (by simp) (by simp) h
    ·rcases List.mem_cons.1 hx with rfl | hx
     ·exact hm.1
     ·rw [List.mem_singleton] at hx; subst hx; exact hm.2
    ·rw [wrapN (by omega)] at h
     exact Zdr P n r hs hr res q (i + 1) l m hl (by omega) h
   ·rw [if_neg (by simpa using hk)] at h
    cases h; exact hl
theorem Z93 (n:Nat) (r:ApiRung) (hn:2 * r.Contacts.length + 10 <= n) (hs:r.Contacts.length <= 1000000):∃ l,Z1R n r = some l /\ IsNodes r l /\ ∀ x,x ∈ l ↔ Z4C r.Contacts x:=by
 obtain ⟨l,a1,a2⟩:=Z8C n r hn hs
 refine ⟨l,a1,a2,fun x=>⟨fun hx=>?_,fun hx=>?_⟩⟩
 ·rw [Z1R,Option.bind_some,show (0:Int) = ((0:Nat):Int) from rfl] at a1
  refine Zdr (Z4C r.Contacts) n r hs (fun c hc=>⟨.inr (.inr ⟨c,hc,.inl rfl⟩),.inr (.inr ⟨c,hc,.inr rfl⟩)⟩) l n 0 _ _ (fun x hx=>?_) (by omega) a1 x hx
  rcases List.mem_cons.1 hx with rfl | hx
  ·exact .inl rfl
  ·rw [List.mem_singleton] at hx; subst hx; exact .inr (.inl rfl)
 ·rcases hx with rfl | rfl | ⟨c,hc,rfl | rfl⟩
  ·exact a2.L
  ·exact a2.R
  ·exact (a2.ends c hc).1
  ·exact (a2.ends c hc).2
theorem Ze8 (n:Nat) (s:List Int) (m:List (Str × Bool)) (r:ApiRung) (hs:s.length <= 1000000) (hr:∀ j ∈ s,∃ (k:Nat) (c:ApiContact),j = (k:Int) /\ r.Contacts[k]? = some c):∀ (q i:Nat) (t:Int),i <= s.length -> Zz n s m r q (i:Int) = some t -> 0 <= t -> ∃ (k:Nat) (c:ApiContact),(k:Int) ∈ s /\ r.Contacts[k]? = some c /\ hasM m c.From = false
 | 0,i,t,_,h,_=>by rw [Zz] at h; cases h
 | q + 1,i,t,hi0,h,ht=>by
   rw [Zz] at h
   by_cases hi:i < s.length
   ·obtain ⟨x,hx⟩:=Z8 hi
    obtain ⟨k,c,rfl,hc⟩:=hr x (List.mem_of_getElem? hx)
    rw [if_pos (by simpa using hi),Z2,hx,Option.bind_some,Z3u,Z2,hc,Option.bind_some,Option.bind_some,wrapN (by omega)] at h
    split at h
    ·rename_i hh
     refine ⟨k,c,List.mem_of_getElem? hx,hc,?_⟩
     have:(!(hasM m c.From)) = true:=hh
     simpa using this
    ·exact Ze8 n s m r hs hr q (i + 1) t (by omega) h ht
   ·rw [if_neg (by simpa using hi)] at h
    cases h; omega
theorem ZkS (n:Nat) (x:Str) (r:ApiRung) (m:List (Str × Bool)) (hs:r.Contacts.length <= 1000000) (hn:r.Contacts.length < n):∃ b,Z2w n x r m = some b /\ (b = true -> ∀ c ∈ r.Contacts,c.To = x -> hasM m c.From = true) /\ (b = false -> ∃ c ∈ r.Contacts,c.To = x /\ hasM m c.From = false):=by
 obtain ⟨b,b1,b2⟩:=ZiS n x r m hs hn
 refine ⟨b,b1,b2,fun hb=>?_⟩
 obtain ⟨l,a1,a2,a3,a4⟩:=Z7J n r x hs hn
 have hr:∀ j ∈ l,∃ (k:Nat) (c:ApiContact),j = (k:Int) /\ r.Contacts[k]? = some c:=fun j hj=>by obtain ⟨k,c,e1,e2,_⟩:=a3 j hj; exact ⟨k,c,e1,e2⟩
 obtain ⟨t,t1,_⟩:=Zbi n l m r (by omega) hr n 0 (by omega) (by omega)
 rw [Z2w,a1,Option.bind_some,Z1y,Z21,show (0:Int) = ((0:Nat):Int) from rfl,t1,Option.bind_some,Option.bind_some] at b1
 have ht:0 <= t:=by
  have:(!(decide (t >= ((0:Nat):Int)))) = b:=by simpa using b1
  rw [hb] at this
  simpa using this
 obtain ⟨k,c,c1,c2,c3⟩:=Ze8 n l m r (by omega) hr n 0 t (by omega) t1 ht
 obtain ⟨k',c',e1,e2,e3⟩:=a3 _ c1
 have:k' = k:=by omega
 subst this
 rw [c2] at e2; cases e2
 exact ⟨c,List.mem_of_getElem? c2,e3,c3⟩
theorem ZcD (n:Nat) (l:List Str) (r:ApiRung) (m:List (Str × Bool)) (hl:l.length <= 100000000) (hs:r.Contacts.length <= 1000000) (hn:r.Contacts.length < n):∀ (q i:Nat) (t:Int),i <= l.length -> Zo n l r m q (i:Int) = some t -> t < 0 ->
 ∀ x ∈ l.drop i,∃ c ∈ r.Contacts,c.To = x /\ hasM m c.From = false
 | 0,i,t,_,h,_=>by rw [Zo] at h; cases h
 | q + 1,i,t,hi0,h,ht=>by
   rw [Zo] at h
   by_cases hi:i < l.length
   ·obtain ⟨x,hx⟩:=Z8 hi
    obtain ⟨b,b1,b2,b3⟩:=ZkS n x r m hs hn
    rw [if_pos (by simpa using hi),Z2,hx,Option.bind_some,b1,Option.bind_some,wrapN (by omega)] at h
    cases b with
    | true=>rw [if_pos rfl] at h; cases h; omega
    | false =>
      rw [if_neg (by simp)] at h
      have ih:=ZcD n l r m hl hs hn q (i + 1) t (by omega) h ht
      rw [Z9 hx]
      intro y hy
      rcases List.mem_cons.1 hy with rfl | hy
      ·exact b3 rfl
      ·exact ih y hy
   ·rw [List.drop_eq_nil_of_le (by omega)]; intro x hx; cases hx
theorem Zgj {α:Type} (f:α -> Nat):∀ {l:List α},l ≠ [] -> ∃ x ∈ l,∀ y ∈ l,f x <= f y
 | [],h=>absurd rfl h
 | [x],_=>⟨x,by simp,fun y hy=>by rw [List.mem_singleton] at hy; subst hy; exact Nat.le_refl _⟩
 | x :: z :: l,_=>by
   obtain ⟨w,h1,h2⟩:=Zgj f (l:=z :: l) (by simp)
   by_cases h:f x <= f w
   ·refine ⟨x,by simp,fun y hy=>?_⟩
    rcases List.mem_cons.1 hy with rfl | hy
    ·exact Nat.le_refl _
    ·exact Nat.le_trans h (h2 y hy)
   ·refine ⟨w,List.mem_cons_of_mem _ h1,fun y hy=>?_⟩
    rcases List.mem_cons.1 hy with rfl | hy
    ·omega
    ·exact h2 y hy
theorem ZdM (n:Nat) (r:ApiRung) (hs:r.Contacts.length <= 1000000) (hn:2 * r.Contacts.length + 10 <= n) (rank:Str -> Nat) (hrk:∀ c ∈ r.Contacts,rank c.From < rank c.To):∀ (q:Nat) (left:List Str) (m:List (Str × Bool)) (l:List Str) (s:List Str) (e:Int),
 left.length + l.length <= 2 + 2 * r.Contacts.length -> (∀ x,hasM m x = true ↔ x ∈ l) -> (∀ c ∈ r.Contacts,c.From ∈ left \/ c.From ∈ l) -> ZT n r q left m l = some (s,e) -> e = 0
 | 0,left,m,l,s,e,_,_,_,h=>by rw [ZT] at h; cases h
 | q + 1,left,m,l,s,e,hl,h1,h2,h=>by
   rw [ZT] at h
   by_cases hk:0 < left.length
   ·rw [if_pos (by simpa using hk)] at h
    obtain ⟨t,a1,a2⟩:=Zab n left r m (by omega) hs (by omega) n 0 (by omega) (by omega)
    have hC:=ZcD n left r m (by omega) hs (by omega) n 0 t (by omega) a1
    rw [Z1n,show (0:Int) = ((0:Nat):Int) from rfl,a1,Option.bind_some] at h
    rcases a2 with rfl | ⟨k,x,rfl,hx,hin⟩
    ·exfalso
     have hC:=hC (by decide)
     rw [List.drop_zero] at hC
     obtain ⟨x,m1,m2⟩:=Zgj rank (l:=left) (by intro e; subst e; simp at hk)
     obtain ⟨c,c1,c2,c3⟩:=hC x m1
     have hr:=hrk c c1
     rcases h2 c c1 with g | g
     ·have:=m2 _ g; rw [c2] at hr; omega
     ·rw [(h1 _).2 g] at c3; cases c3
    ·have hkl:=Zd hx
     have hp:=Z3o hx
     rw [if_neg (by simp),Z2,hx,Option.bind_some,if_pos (by simp; omega),Option.bind_some,wrapN (by omega),ZhJ n left k hkl,Option.bind_some] at h
     refine ZdM n r hs hn rank hrk q (left.eraseIdx k) (mPut m x true) (l ++ [x]) s e ?_ ?_ ?_ h
     ·rw [List.length_eraseIdx_of_lt hkl,List.length_append,List.length_singleton]; omega
     ·intro y
      rw [Z1X,Bool.or_eq_true,h1,decide_eq_true_eq,List.mem_append,List.mem_singleton]
      exact Or.comm
     ·intro c hc
      rcases h2 c hc with g | g
      ·rcases List.mem_cons.1 (hp.subset g) with g | g
       ·exact .inr (by simp [g])
       ·exact .inl g
      ·exact .inr (by simp [g])
   ·rw [if_neg (by simpa using hk)] at h
    cases h; rfl
def Acyc (cs:List ApiContact):Prop:=∃ rank:Str -> Nat,∀ c ∈ cs,rank c.From < rank c.To
theorem Zeo (n:Nat) (r:ApiRung) (hs:r.Contacts.length <= 1000000) (hn:2 * r.Contacts.length + 10 <= n):∃ s e,Z2F n r = some (s,e) /\ (e = 0 ↔ Acyc r.Contacts):=by
 obtain ⟨s,e,a1,a2⟩:=Zhf n r hs hn
 refine ⟨s,e,a1,a2,fun ⟨rank,hrk⟩=>?_⟩
 obtain ⟨l,b1,b2⟩:=Z8C n r hn hs
 rw [Z2F,b1,Option.bind_some] at a1
 have:=b2.len
 exact ZdM n r hs hn rank hrk n l [] [] s e (by simpa using this) (fun x=>by simp [Zd0]) (fun c hc=>.inl (b2.ends c hc).1) a1
theorem Zfm (n:Nat) (r:ApiRung):∀ (q:Nat) (left:List Str) (m:List (Str × Bool)) (l s:List Str) (e:Int),ZT n r q left m l = some (s,e) -> e = 0 \/ e = 12
 | 0,left,m,l,s,e,h=>by rw [ZT] at h; cases h
 | q + 1,left,m,l,s,e,h=>by
   rw [ZT] at h
   split at h
   ·obtain ⟨t,_,h⟩:=Option.bind_eq_some_iff.1 h
    split at h
    ·cases h; exact .inr rfl
    ·obtain ⟨x,_,h⟩:=Option.bind_eq_some_iff.1 h
     split at h
     ·rw [Option.bind_some] at h
      obtain ⟨d,_,h⟩:=Option.bind_eq_some_iff.1 h
      exact Zfm n r q _ _ _ s e h
     ·cases h
   ·cases h; exact .inl rfl
theorem Z6J (n:Nat) (r:ApiRung) (b:Str) (hs:r.Contacts.length <= 1000000):∀ (q i:Nat) (acc l:List Int),i <= r.Contacts.length -> ZL n r b q (i:Int) acc = some l -> r.Contacts.length - i < q
 | 0,i,acc,l,_,h=>by rw [ZL] at h; cases h
 | q + 1,i,acc,l,hi0,h=>by
   rw [ZL] at h
   by_cases hk:i < r.Contacts.length
   ·obtain ⟨c,hc⟩:=Z8 hk
    rw [if_pos (by simpa using hk),Z2,hc,Option.bind_some,Z4f,Option.bind_some,wrapN (by omega)] at h
    split at h
    ·split at h
     ·rw [Option.bind_some] at h
      have:=Z6J n r b hs q (i + 1) _ l (by omega) h
      omega
     ·cases h
    ·have:=Z6J n r b hs q (i + 1) _ l (by omega) h
     omega
   ·omega
theorem ZeC (n:Nat) (r:ApiRung) (x:Str) (s:List Int) (hs:r.Contacts.length <= 1000000) (h:Z2a n r x = some s):r.Contacts.length < n:=by
 rw [Z2a,Z3r,show (0:Int) = ((0:Nat):Int) from rfl] at h
 obtain ⟨l,h1,_⟩:=Option.bind_eq_some_iff.1 h
 have:=Z6J n r x hs n 0 [] l (by omega) h1
 omega
theorem Z6G (n:Nat) (r:ApiRung) (b:Str) (hs:r.Contacts.length <= 1000000):∀ (q i:Nat) (acc l:List Int),i <= r.Contacts.length -> ZN n r b q (i:Int) acc = some l -> r.Contacts.length - i < q
 | 0,i,acc,l,_,h=>by rw [ZN] at h; cases h
 | q + 1,i,acc,l,hi0,h=>by
   rw [ZN] at h
   by_cases hk:i < r.Contacts.length
   ·obtain ⟨c,hc⟩:=Z8 hk
    rw [if_pos (by simpa using hk),Z2,hc,Option.bind_some,Z4m,Option.bind_some,wrapN (by omega)] at h
    split at h
    ·split at h
     ·rw [Option.bind_some] at h
      have:=Z6G n r b hs q (i + 1) _ l (by omega) h
      omega
     ·cases h
    ·have:=Z6G n r b hs q (i + 1) _ l (by omega) h
     omega
   ·omega
theorem Zeq (n:Nat) (r:ApiRung) (x:Str) (s:List Int) (hs:r.Contacts.length <= 1000000) (h:Z2A n r x = some s):r.Contacts.length < n:=by
 rw [Z2A,Z3x,show (0:Int) = ((0:Nat):Int) from rfl] at h
 obtain ⟨l,h1,_⟩:=Option.bind_eq_some_iff.1 h
 have:=Z6G n r x hs n 0 [] l (by omega) h1
 omega
theorem Z6W (r:ApiRung) (s:List Int) (hs:s.length <= 1000000) (hr:∀ j ∈ s,∃ (k:Nat) (c:ApiContact),j = (k:Int) /\ r.Contacts[k]? = some c):∀ (q i:Nat) (acc l:List Str),i <= s.length -> ZW r s q (i:Int) acc = some l ->
 (∀ x ∈ acc,x ∈ l) /\ (∀ (k:Nat) (c:ApiContact),(k:Int) ∈ s.drop i -> r.Contacts[k]? = some c -> c.To ∈ l) /\ ∀ x ∈ l,x ∈ acc \/ ∃ (k:Nat) (c:ApiContact),(k:Int) ∈ s /\ r.Contacts[k]? = some c /\ x = c.To
 | 0,i,acc,l,_,h=>by rw [ZW] at h; cases h
 | q + 1,i,acc,l,hi0,h=>by
   rw [ZW] at h
   by_cases hi:i < s.length
   ·obtain ⟨x,hx⟩:=Z8 hi
    obtain ⟨k,c,rfl,hc⟩:=hr x (List.mem_of_getElem? hx)
    rw [if_pos (by simpa using hi),Z2,hx,Option.bind_some,Z2,hc,Option.bind_some,wrapN (by omega)] at h
    split at h
    ·rw [Option.bind_some] at h
     obtain ⟨a1,a2,a3⟩:=Z6W r s hs hr q (i + 1) _ l (by omega) h
     refine ⟨fun x hx=>a1 x (by simp [hx]),fun k' c' hk' hc'=>?_,fun x hx'=>?_⟩
     ·rw [Z9 hx] at hk'
      rcases List.mem_cons.1 hk' with e | hk'
      ·have:k' = k:=by omega
       subst this; rw [hc] at hc'; cases hc'; exact a1 _ (by simp)
      ·exact a2 k' c' hk' hc'
     ·rcases a3 x hx' with g | g
      ·rcases List.mem_append.1 g with g | g
       ·exact .inl g
       ·rw [List.mem_singleton] at g; exact .inr ⟨k,c,List.mem_of_getElem? hx,hc,g⟩
      ·exact .inr g
    ·cases h
   ·rw [if_neg (by simpa using hi)] at h
    cases h
    refine ⟨fun _ h=>h,?_,fun _ h=>.inl h⟩
    rw [List.drop_eq_nil_of_le (by omega)]
    intro k c hk; cases hk
theorem ZdB (n:Nat) (r:ApiRung) (x:Str) (hs:r.Contacts.length <= 1000000) (hn:r.Contacts.length < n):∃ l,Z2i n x r = some l /\ l.length <= r.Contacts.length /\ ∀ y,y ∈ l ↔ ∃ c ∈ r.Contacts,c.From = x /\ y = c.To:=by
 obtain ⟨l,e1,e2,_⟩:=Z9s n r x hs hn
 refine ⟨l,e1,e2,?_⟩
 obtain ⟨s,a1,a2,a3,a4⟩:=Zcx n r x hs hn
 rw [Z2i,a1,Option.bind_some,show (0:Int) = ((0:Nat):Int) from rfl] at e1
 obtain ⟨b1,b2,b3⟩:=Z6W r s (by omega) (fun j hj=>by obtain ⟨k,c,e1,e2,_⟩:=a3 j hj; exact ⟨k,c,e1,e2⟩) n 0 [] l (by omega) e1
 intro y
 constructor
 ·intro hy
  rcases b3 y hy with g | ⟨k,c,hk,hc,rfl⟩
  ·cases g
  ·obtain ⟨k',c',q1,q2,q3⟩:=a3 _ hk
   have:k' = k:=by omega
   subst this; rw [hc] at q2; cases q2
   exact ⟨c,List.mem_of_getElem? hc,q3,rfl⟩
 ·rintro ⟨c,hc,h1,rfl⟩
  obtain ⟨k,hk⟩:=List.getElem?_of_mem hc
  exact b2 k c (by simpa using a4 k c hk h1) hk
inductive RchReachable (cs:List ApiContact) (s:Str):Str -> Prop
 | refl:RchReachable cs s s
 | step {c:ApiContact} (h1:c ∈ cs) (h:RchReachable cs s c.From):RchReachable cs s c.To
theorem RchReachable.trans {cs:List ApiContact} {a b x:Str} (h:RchReachable cs a b) (k:RchReachable cs b x):RchReachable cs a x:=by
 induction k with
 | refl=>exact h
 | step h1 _ ih=>exact .step h1 ih
structure VisReachable (cs:List ApiContact) (m m':List (Str × Bool)):Prop where
 mono:∀ y,hasM m y = true -> hasM m' y = true
 closed:∀ y,hasM m' y = true -> hasM m y = false -> ∀ c ∈ cs,c.From = y -> hasM m' c.To = true
theorem VisReachable.trans {cs:List ApiContact} {m m1 m2:List (Str × Bool)} (h:VisReachable cs m m1) (k:VisReachable cs m1 m2):VisReachable cs m m2:=by
 refine ⟨fun y hy=>k.mono y (h.mono y hy),fun y hy hn c hc he=>?_⟩
 cases h1:hasM m1 y with
 | true=>exact k.mono _ (h.closed y h1 hn c hc he)
 | false=>exact k.closed y hy h1 c hc he
theorem Z6S (r:ApiRung) (s:List Str) (slf:Str -> List (Str × Bool) -> ApiRung -> Option (List (Str × Bool))) (hs:s.length <= 1000000)
 (hf:∀ x ∈ s,∀ m m',slf x m r = some m' -> VisReachable r.Contacts m m' /\ hasM m' x = true /\ ∀ y,hasM m' y = true -> hasM m y = true \/ RchReachable r.Contacts x y):∀ (q i:Nat) (m m':List (Str × Bool)),i <= s.length ->
 ZD r s slf q m (i:Int) = some m' -> VisReachable r.Contacts m m' /\ (∀ x ∈ s.drop i,hasM m' x = true) /\ ∀ y,hasM m' y = true -> hasM m y = true \/ ∃ x ∈ s,RchReachable r.Contacts x y
 | 0,i,m,m',_,h=>by rw [ZD] at h; cases h
 | q + 1,i,m,m',hi0,h=>by
   rw [ZD] at h
   by_cases hi:i < s.length
   ·obtain ⟨x,hx⟩:=Z8 hi
    rw [if_pos (by simpa using hi),Z2,hx,Option.bind_some,wrapN (by omega)] at h
    obtain ⟨m1,h1,h⟩:=Option.bind_eq_some_iff.1 h
    obtain ⟨v1,v2,v3⟩:=hf x (List.mem_of_getElem? hx) m m1 h1
    obtain ⟨w1,w2,w3⟩:=Z6S r s slf hs hf q (i + 1) m1 m' (by omega) h
    refine ⟨v1.trans w1,?_,fun y hy=>?_⟩
    ·rw [Z9 hx]
     intro y hy
     rcases List.mem_cons.1 hy with rfl | hy
     ·exact w1.mono _ v2
     ·exact w2 y hy
    ·rcases w3 y hy with g | g
     ·rcases v3 y g with g | g
      ·exact .inl g
      ·exact .inr ⟨x,List.mem_of_getElem? hx,g⟩
     ·exact .inr g
   ·rw [if_neg (by simpa using hi)] at h
    cases h
    refine ⟨⟨fun _ h=>h,fun y h1 h2=>by rw [h1] at h2; cases h2⟩,?_,fun _ h=>.inl h⟩
    rw [List.drop_eq_nil_of_le (by omega)]
    intro x hx; cases hx
theorem Z8P (r:ApiRung) (hs:r.Contacts.length <= 1000000):∀ (n:Nat) (x:Str) (m m':List (Str × Bool)),Zs n x m r = some m' ->
 VisReachable r.Contacts m m' /\ hasM m' x = true /\ ∀ y,hasM m' y = true -> hasM m y = true \/ RchReachable r.Contacts x y
 | 0,x,m,m',h=>by rw [Zs] at h; cases h
 | n + 1,x,m,m',h=>by
   rw [Zs] at h
   cases hh:hasM m x with
   | true =>
     have hh':(mGet m x).getD false = true:=hh
     rw [hh',if_pos rfl] at h
     cases h
     exact ⟨⟨fun _ h=>h,fun y h1 h2=>by rw [h1] at h2; cases h2⟩,hh,fun _ h=>.inl h⟩
   | false =>
     have hh':(mGet m x).getD false = false:=hh
     rw [hh',if_neg (by simp)] at h
     obtain ⟨l,h1,h⟩:=Option.bind_eq_some_iff.1 h
     rw [show (0:Int) = ((0:Nat):Int) from rfl] at h
     by_cases hnn:r.Contacts.length < n
     ·obtain ⟨l',a1,a2,a3⟩:=ZdB n r x hs hnn
      rw [a1] at h1; cases h1
      obtain ⟨w1,w2,w3⟩:=Z6S r l (Zs n) (by omega) (fun y hy m1 m2 hm=>Z8P r hs n y m1 m2 hm) n 0 (mPut m x true) m' (by omega) h
      refine ⟨⟨fun y hy=>w1.mono y (by rw [Z1X,hy]; simp),fun y hy hn c hc he=>?_⟩,w1.mono x (by rw [Z1X]; simp),fun y hy=>?_⟩
      ·cases h2:hasM (mPut m x true) y with
       | true =>
         rw [Z1X,hn] at h2
         have:y = x:=by simpa using h2
         subst this
         exact w2 _ (by rw [List.drop_zero]; exact (a3 _).2 ⟨c,hc,he,rfl⟩)
       | false=>exact w1.closed y hy h2 c hc he
      ·rcases w3 y hy with g | ⟨z,hz,g⟩
       ·rw [Z1X,Bool.or_eq_true,decide_eq_true_eq] at g
        rcases g with rfl | g
        ·exact .inr .refl
        ·exact .inl g
       ·obtain ⟨c,hc,h1,rfl⟩:=(a3 z).1 hz
        have:RchReachable r.Contacts x c.To:=.step hc (by rw [h1]; exact .refl)
        exact .inr (this.trans g)
     ·exfalso
      obtain ⟨s,a1,a2⟩:=Option.bind_eq_some_iff.1 (show (Z2A n r x).bind (fun s=>ZW r s n 0 []) = some l from h1)
      exact hnn (Zeq n r x s hs a1)
theorem Z76 (r:ApiRung) (s:List Int) (hs:s.length <= 1000000) (hr:∀ j ∈ s,∃ (k:Nat) (c:ApiContact),j = (k:Int) /\ r.Contacts[k]? = some c):∀ (q i:Nat) (acc l:List Str),i <= s.length -> ZV r s q (i:Int) acc = some l ->
 (∀ x ∈ acc,x ∈ l) /\ (∀ (k:Nat) (c:ApiContact),(k:Int) ∈ s.drop i -> r.Contacts[k]? = some c -> c.From ∈ l) /\ ∀ x ∈ l,x ∈ acc \/ ∃ (k:Nat) (c:ApiContact),(k:Int) ∈ s /\ r.Contacts[k]? = some c /\ x = c.From
 | 0,i,acc,l,_,h=>by rw [ZV] at h; cases h
 | q + 1,i,acc,l,hi0,h=>by
   rw [ZV] at h
   by_cases hi:i < s.length
   ·obtain ⟨x,hx⟩:=Z8 hi
    obtain ⟨k,c,rfl,hc⟩:=hr x (List.mem_of_getElem? hx)
    rw [if_pos (by simpa using hi),Z2,hx,Option.bind_some,Z2,hc,Option.bind_some,wrapN (by omega)] at h
    split at h
    ·rw [Option.bind_some] at h
     obtain ⟨a1,a2,a3⟩:=Z76 r s hs hr q (i + 1) _ l (by omega) h
     refine ⟨fun x hx=>a1 x (by simp [hx]),fun k' c' hk' hc'=>?_,fun x hx'=>?_⟩
     ·rw [Z9 hx] at hk'
      rcases List.mem_cons.1 hk' with e | hk'
      ·have:k' = k:=by omega
       subst this; rw [hc] at hc'; cases hc'; exact a1 _ (by simp)
      ·exact a2 k' c' hk' hc'
     ·rcases a3 x hx' with g | g
      ·rcases List.mem_append.1 g with g | g
       ·exact .inl g
       ·rw [List.mem_singleton] at g; exact .inr ⟨k,c,List.mem_of_getElem? hx,hc,g⟩
      ·exact .inr g
    ·cases h
   ·rw [if_neg (by simpa using hi)] at h
    cases h
    refine ⟨fun _ h=>h,?_,fun _ h=>.inl h⟩
    rw [List.drop_eq_nil_of_le (by omega)]
    intro k c hk; cases hk
theorem ZdC (n:Nat) (r:ApiRung) (x:Str) (hs:r.Contacts.length <= 1000000) (hn:r.Contacts.length < n):∃ l,Z2h n x r = some l /\ l.length <= r.Contacts.length /\ ∀ y,y ∈ l ↔ ∃ c ∈ r.Contacts,c.To = x /\ y = c.From:=by
 obtain ⟨l,e1,e2,_⟩:=Z9m n r x hs hn
 refine ⟨l,e1,e2,?_⟩
 obtain ⟨s,a1,a2,a3,a4⟩:=Z7J n r x hs hn
 rw [Z2h,a1,Option.bind_some,show (0:Int) = ((0:Nat):Int) from rfl] at e1
 obtain ⟨b1,b2,b3⟩:=Z76 r s (by omega) (fun j hj=>by obtain ⟨k,c,e1,e2,_⟩:=a3 j hj; exact ⟨k,c,e1,e2⟩) n 0 [] l (by omega) e1
 intro y
 constructor
 ·intro hy
  rcases b3 y hy with g | ⟨k,c,hk,hc,rfl⟩
  ·cases g
  ·obtain ⟨k',c',q1,q2,q3⟩:=a3 _ hk
   have:k' = k:=by omega
   subst this; rw [hc] at q2; cases q2
   exact ⟨c,List.mem_of_getElem? hc,q3,rfl⟩
 ·rintro ⟨c,hc,h1,rfl⟩
  obtain ⟨k,hk⟩:=List.getElem?_of_mem hc
  exact b2 k c (by simpa using a4 k c hk h1) hk
inductive RchAncestors (cs:List ApiContact) (s:Str):Str -> Prop
 | refl:RchAncestors cs s s
 | step {c:ApiContact} (h1:c ∈ cs) (h:RchAncestors cs s c.To):RchAncestors cs s c.From
theorem RchAncestors.trans {cs:List ApiContact} {a b x:Str} (h:RchAncestors cs a b) (k:RchAncestors cs b x):RchAncestors cs a x:=by
 induction k with
 | refl=>exact h
 | step h1 _ ih=>exact .step h1 ih
structure VisAncestors (cs:List ApiContact) (m m':List (Str × Bool)):Prop where
 mono:∀ y,hasM m y = true -> hasM m' y = true
 closed:∀ y,hasM m' y = true -> hasM m y = false -> ∀ c ∈ cs,c.To = y -> hasM m' c.From = true
theorem VisAncestors.trans {cs:List ApiContact} {m m1 m2:List (Str × Bool)} (h:VisAncestors cs m m1) (k:VisAncestors cs m1 m2):VisAncestors cs m m2:=by
 refine ⟨fun y hy=>k.mono y (h.mono y hy),fun y hy hn c hc he=>?_⟩
 cases h1:hasM m1 y with
 | true=>exact k.mono _ (h.closed y h1 hn c hc he)
 | false=>exact k.closed y hy h1 c hc he
theorem Z71 (r:ApiRung) (s:List Str) (slf:Str -> List (Str × Bool) -> ApiRung -> Option (List (Str × Bool))) (hs:s.length <= 1000000)
 (hf:∀ x ∈ s,∀ m m',slf x m r = some m' -> VisAncestors r.Contacts m m' /\ hasM m' x = true /\ ∀ y,hasM m' y = true -> hasM m y = true \/ RchAncestors r.Contacts x y):∀ (q i:Nat) (m m':List (Str × Bool)),i <= s.length ->
 ZF r s slf q m (i:Int) = some m' -> VisAncestors r.Contacts m m' /\ (∀ x ∈ s.drop i,hasM m' x = true) /\ ∀ y,hasM m' y = true -> hasM m y = true \/ ∃ x ∈ s,RchAncestors r.Contacts x y
 | 0,i,m,m',_,h=>by rw [ZF] at h; cases h
 | q + 1,i,m,m',hi0,h=>by
   rw [ZF] at h
   by_cases hi:i < s.length
   ·obtain ⟨x,hx⟩:=Z8 hi
    rw [if_pos (by simpa using hi),Z2,hx,Option.bind_some,wrapN (by omega)] at h
    obtain ⟨m1,h1,h⟩:=Option.bind_eq_some_iff.1 h
    obtain ⟨v1,v2,v3⟩:=hf x (List.mem_of_getElem? hx) m m1 h1
    obtain ⟨w1,w2,w3⟩:=Z71 r s slf hs hf q (i + 1) m1 m' (by omega) h
    refine ⟨v1.trans w1,?_,fun y hy=>?_⟩
    ·rw [Z9 hx]
     intro y hy
     rcases List.mem_cons.1 hy with rfl | hy
     ·exact w1.mono _ v2
     ·exact w2 y hy
    ·rcases w3 y hy with g | g
     ·rcases v3 y g with g | g
      ·exact .inl g
      ·exact .inr ⟨x,List.mem_of_getElem? hx,g⟩
     ·exact .inr g
   ·rw [if_neg (by simpa using hi)] at h
    cases h
    refine ⟨⟨fun _ h=>h,fun y h1 h2=>by rw [h1] at h2; cases h2⟩,?_,fun _ h=>.inl h⟩
    rw [List.drop_eq_nil_of_le (by omega)]
    intro x hx; cases hx
theorem Z8R (r:ApiRung) (hs:r.Contacts.length <= 1000000):∀ (n:Nat) (x:Str) (m m':List (Str × Bool)),Zr n x m r = some m' ->
 VisAncestors r.Contacts m m' /\ hasM m' x = true /\ ∀ y,hasM m' y = true -> hasM m y = true \/ RchAncestors r.Contacts x y
 | 0,x,m,m',h=>by rw [Zr] at h; cases h
 | n + 1,x,m,m',h=>by
   rw [Zr] at h
   cases hh:hasM m x with
   | true =>
     have hh':(mGet m x).getD false = true:=hh
     rw [hh',if_pos rfl] at h
     cases h
     exact ⟨⟨fun _ h=>h,fun y h1 h2=>by rw [h1] at h2; cases h2⟩,hh,fun _ h=>.inl h⟩
   | false =>
     have hh':(mGet m x).getD false = false:=hh
     rw [hh',if_neg (by simp)] at h
     obtain ⟨l,h1,h⟩:=Option.bind_eq_some_iff.1 h
     rw [show (0:Int) = ((0:Nat):Int) from rfl] at h
     by_cases hnn:r.Contacts.length < n
     ·obtain ⟨l',a1,a2,a3⟩:=ZdC n r x hs hnn
      rw [a1] at h1; cases h1
      obtain ⟨w1,w2,w3⟩:=Z71 r l (Zr n) (by omega) (fun y hy m1 m2 hm=>Z8R r hs n y m1 m2 hm) n 0 (mPut m x true) m' (by omega) h
      refine ⟨⟨fun y hy=>w1.mono y (by rw [Z1X,hy]; simp),fun y hy hn c hc he=>?_⟩,w1.mono x (by rw [Z1X]; simp),fun y hy=>?_⟩
      ·cases h2:hasM (mPut m x true) y with
       | true =>
         rw [Z1X,hn] at h2
         have:y = x:=by simpa using h2
         subst this
         exact w2 _ (by rw [List.drop_zero]; exact (a3 _).2 ⟨c,hc,he,rfl⟩)
       | false=>exact w1.closed y hy h2 c hc he
      ·rcases w3 y hy with g | ⟨z,hz,g⟩
       ·rw [Z1X,Bool.or_eq_true,decide_eq_true_eq] at g
        rcases g with rfl | g
        ·exact .inr .refl
        ·exact .inl g
       ·obtain ⟨c,hc,h1,rfl⟩:=(a3 z).1 hz
        have:RchAncestors r.Contacts x c.From:=.step hc (by rw [h1]; exact .refl)
        exact .inr (this.trans g)
     ·exfalso
      obtain ⟨s,a1,a2⟩:=Option.bind_eq_some_iff.1 (show (Z2a n r x).bind (fun s=>ZV r s n 0 []) = some l from h1)
      exact hnn (ZeC n r x s hs a1)
section
variable (n:Nat) (m2:List (Str × Bool))
theorem ZbA (l:List Str) (hl:l.length <= 100000000) (p:Str -> Bool) (hp:∀ x,Z1N n x m2 = some (p x)):∀ (q i:Nat) (t:Int),i <= l.length -> Zm n l m2 q (i:Int) = some t -> (t = -1 /\ ∀ x ∈ l.drop i,p x = false) \/ ∃ k:Nat,t = (k:Int) /\ i <= k /\ k < l.length /\ (∃ x,l[k]? = some x /\ p x = true) /\ ∀ x ∈ (l.drop i).take (k - i),p x = false
 | 0,i,t,_,h=>by rw [Zm] at h; cases h
 | q + 1,i,t,hi0,h=>by
   rw [Zm] at h
   by_cases hi:i < l.length
   ·obtain ⟨x,hx⟩:=Z8 hi
    rw [if_pos (by simpa using hi),Z2,hx,Option.bind_some,hp,Option.bind_some,wrapN (by omega)] at h
    cases hb:p x with
    | true =>
      rw [hb,if_pos rfl] at h
      cases h
      exact .inr ⟨i,rfl,Nat.le_refl _,hi,⟨x,hx,hb⟩,by simp⟩
    | false =>
      rw [hb,if_neg (by simp)] at h
      rw [Z9 hx]
      rcases ZbA l hl p hp q (i + 1) t (by omega) h with ⟨e,g⟩ | ⟨k,e,k1,k2,k3,k4⟩
      ·refine .inl ⟨e,fun y hy=>?_⟩
       rcases List.mem_cons.1 hy with rfl | hy
       ·exact hb
       ·exact g y hy
      ·refine .inr ⟨k,e,by omega,k2,k3,fun y hy=>?_⟩
       rw [show k - i = (k - (i + 1)) + 1 by omega,List.take_succ_cons] at hy
       rcases List.mem_cons.1 hy with rfl | hy
       ·exact hb
       ·exact k4 y hy
   ·rw [if_neg (by simpa using hi)] at h
    cases h
    refine .inl ⟨rfl,?_⟩
    rw [List.drop_eq_nil_of_le (by omega)]
    intro x hx; cases hx
theorem Z81 (l0:List Str) (hl:l0.length <= 100000000) (p:Str -> Bool) (hp:∀ x,Z1N n x m2 = some (p x)):∀ (q j i:Nat) (l l':List Str),l.length = l0.length -> i <= j -> j <= l0.length -> l.drop j = l0.drop j -> l.take i = (l0.take j).filter (fun x=>!p x) ->
 Ze n m2 q l (i:Int) (j:Int) = some l' -> l' = l0.filter (fun x=>!p x)
 | 0,j,i,l,l',_,_,_,_,_,h=>by rw [Ze] at h; cases h
 | q + 1,j,i,l,l',hll,hij,hj,hd,ht,h=>by
   rw [Ze] at h
   by_cases hk:j < l.length
   ·obtain ⟨x,hx⟩:=Z8 hk
    obtain ⟨y,hy⟩:=Z8 (l:=l) (i:=i) (by omega)
    have hx0:l0[j]? = some x:=by
     have e1:(l.drop j)[0]? = l[j]?:=by simp
     have e2:(l0.drop j)[0]? = l0[j]?:=by simp
     rw [<- e2,<- hd,e1]; exact hx
    have hd1:l.drop (j + 1) = l0.drop (j + 1):=by
     have:=congrArg List.tail hd
     simpa [List.tail_drop] using this
    have ht1:l0.take (j + 1) = l0.take j ++ [x]:=by rw [List.take_add_one,hx0]; rfl
    rw [if_pos (by simpa using hk),Z2,hx,Option.bind_some,hp,Option.bind_some] at h
    cases hb:p x with
    | true =>
      rw [hb,if_neg (by simp),wrapN (by omega)] at h
      refine Z81 l0 hl p hp q (j + 1) i l l' hll (by omega) (by omega) hd1 ?_ h
      rw [ht1,List.filter_append,ht]; simp [hb]
    | false =>
      rw [hb,if_pos (by simp),Z2,hy,Option.bind_some,Option.bind_some,wrapN (by omega),wrapN (by omega),Int.toNat_natCast] at h
      refine Z81 l0 hl p hp q (j + 1) (i + 1) _ l' (by rw [List.length_set]; exact hll) (by omega) (by omega) ?_ ?_ h
      ·rw [List.drop_set_of_lt (by omega)]; exact hd1
      ·rw [ht1,List.filter_append,<- ht,List.take_add_one,List.take_set_of_le (Nat.le_refl _),List.getElem?_set_self (by omega)]; simp [hb]
   ·have hje:j = l0.length:=by omega
    rw [if_neg (by simpa using hk),Int.toNat_natCast,if_pos (by omega),if_pos (by omega),if_pos (by omega)] at h
    cases h
    rw [ht,hje,List.take_length]
theorem Zar (l l':List Str) (hl:l.length <= 100000000) (p:Str -> Bool) (hp:∀ x,Z1N n x m2 = some (p x)) (h:Zw n l m2 = some l'):l' = l.filter (fun x=>!p x):=by
 rw [Zw] at h
 obtain ⟨t,h1,h⟩:=Option.bind_eq_some_iff.1 h
 rw [Z1l,show (0:Int) = ((0:Nat):Int) from rfl] at h1
 rcases ZbA n m2 l hl p hp n 0 t (by omega) h1 with ⟨rfl,g⟩ | ⟨k,rfl,k1,k2,⟨x,hx,hpx⟩,k4⟩
 ·rw [if_pos (by decide)] at h
  cases h
  rw [List.drop_zero] at g
  rw [List.filter_eq_self.2]
  intro a ha; simp [g a ha]
 ·rw [if_neg (by simp),wrapN (by omega)] at h
  refine Z81 n m2 l hl p hp n (k + 1) k l l' rfl (by omega) (by omega) rfl ?_ h
  rw [List.drop_zero,Nat.sub_zero] at k4
  rw [List.take_add_one,hx,List.filter_append]
  have:(l.take k).filter (fun x=>!p x) = l.take k:=List.filter_eq_self.2 fun a ha=>by simp [k4 a ha]
  rw [this]; simp [hpx]
end
section
variable (n:Nat) (b1 b2:List Str)
theorem Zb4 (l:List Str) (hl:l.length <= 100000000) (p:Str -> Bool) (hp:∀ x,Z15 n x b1 b2 = some (p x)):∀ (q i:Nat) (t:Int),i <= l.length -> Zn n l b1 b2 q (i:Int) = some t -> (t = -1 /\ ∀ x ∈ l.drop i,p x = false) \/ ∃ k:Nat,t = (k:Int) /\ i <= k /\ k < l.length /\ (∃ x,l[k]? = some x /\ p x = true) /\ ∀ x ∈ (l.drop i).take (k - i),p x = false
 | 0,i,t,_,h=>by rw [Zn] at h; cases h
 | q + 1,i,t,hi0,h=>by
   rw [Zn] at h
   by_cases hi:i < l.length
   ·obtain ⟨x,hx⟩:=Z8 hi
    rw [if_pos (by simpa using hi),Z2,hx,Option.bind_some,hp,Option.bind_some,wrapN (by omega)] at h
    cases hb:p x with
    | true =>
      rw [hb,if_pos rfl] at h
      cases h
      exact .inr ⟨i,rfl,Nat.le_refl _,hi,⟨x,hx,hb⟩,by simp⟩
    | false =>
      rw [hb,if_neg (by simp)] at h
      rw [Z9 hx]
      rcases Zb4 l hl p hp q (i + 1) t (by omega) h with ⟨e,g⟩ | ⟨k,e,k1,k2,k3,k4⟩
      ·refine .inl ⟨e,fun y hy=>?_⟩
       rcases List.mem_cons.1 hy with rfl | hy
       ·exact hb
       ·exact g y hy
      ·refine .inr ⟨k,e,by omega,k2,k3,fun y hy=>?_⟩
       rw [show k - i = (k - (i + 1)) + 1 by omega,List.take_succ_cons] at hy
       rcases List.mem_cons.1 hy with rfl | hy
       ·exact hb
       ·exact k4 y hy
   ·rw [if_neg (by simpa using hi)] at h
    cases h
    refine .inl ⟨rfl,?_⟩
    rw [List.drop_eq_nil_of_le (by omega)]
    intro x hx; cases hx
theorem Z7Z (l0:List Str) (hl:l0.length <= 100000000) (p:Str -> Bool) (hp:∀ x,Z15 n x b1 b2 = some (p x)):∀ (q j i:Nat) (l l':List Str),l.length = l0.length -> i <= j -> j <= l0.length -> l.drop j = l0.drop j -> l.take i = (l0.take j).filter (fun x=>!p x) ->
 Zk n b1 b2 q l (i:Int) (j:Int) = some l' -> l' = l0.filter (fun x=>!p x)
 | 0,j,i,l,l',_,_,_,_,_,h=>by rw [Zk] at h; cases h
 | q + 1,j,i,l,l',hll,hij,hj,hd,ht,h=>by
   rw [Zk] at h
   by_cases hk:j < l.length
   ·obtain ⟨x,hx⟩:=Z8 hk
    obtain ⟨y,hy⟩:=Z8 (l:=l) (i:=i) (by omega)
    have hx0:l0[j]? = some x:=by
     have e1:(l.drop j)[0]? = l[j]?:=by simp
     have e2:(l0.drop j)[0]? = l0[j]?:=by simp
     rw [<- e2,<- hd,e1]; exact hx
    have hd1:l.drop (j + 1) = l0.drop (j + 1):=by
     have:=congrArg List.tail hd
     simpa [List.tail_drop] using this
    have ht1:l0.take (j + 1) = l0.take j ++ [x]:=by rw [List.take_add_one,hx0]; rfl
    rw [if_pos (by simpa using hk),Z2,hx,Option.bind_some,hp,Option.bind_some] at h
    cases hb:p x with
    | true =>
      rw [hb,if_neg (by simp),wrapN (by omega)] at h
      refine Z7Z l0 hl p hp q (j + 1) i l l' hll (by omega) (by omega) hd1 ?_ h
      rw [ht1,List.filter_append,ht]; simp [hb]
    | false =>
      rw [hb,if_pos (by simp),Z2,hy,Option.bind_some,Option.bind_some,wrapN (by omega),wrapN (by omega),Int.toNat_natCast] at h
      refine Z7Z l0 hl p hp q (j + 1) (i + 1) _ l' (by rw [List.length_set]; exact hll) (by omega) (by omega) ?_ ?_ h
      ·rw [List.drop_set_of_lt (by omega)]; exact hd1
      ·rw [ht1,List.filter_append,<- ht,List.take_add_one,List.take_set_of_le (Nat.le_refl _),List.getElem?_set_self (by omega)]; simp [hb]
   ·have hje:j = l0.length:=by omega
    rw [if_neg (by simpa using hk),Int.toNat_natCast,if_pos (by omega),if_pos (by omega),if_pos (by omega)] at h
    cases h
    rw [ht,hje,List.take_length]
theorem Zfn (l l':List Str) (hl:l.length <= 100000000) (p:Str -> Bool) (hp:∀ x,Z15 n x b1 b2 = some (p x)) (h:ZK n l b1 b2 = some l'):l' = l.filter (fun x=>!p x):=by
 rw [ZK] at h
 obtain ⟨t,h1,h⟩:=Option.bind_eq_some_iff.1 h
 rw [Z1k,show (0:Int) = ((0:Nat):Int) from rfl] at h1
 rcases Zb4 n b1 b2 l hl p hp n 0 t (by omega) h1 with ⟨rfl,g⟩ | ⟨k,rfl,k1,k2,⟨x,hx,hpx⟩,k4⟩
 ·rw [if_pos (by decide)] at h
  cases h
  rw [List.drop_zero] at g
  rw [List.filter_eq_self.2]
  intro a ha; simp [g a ha]
 ·rw [if_neg (by simp),wrapN (by omega)] at h
  refine Z7Z n b1 b2 l hl p hp n (k + 1) k l l' rfl (by omega) (by omega) rfl ?_ h
  rw [List.drop_zero,Nat.sub_zero] at k4
  rw [List.take_add_one,hx,List.filter_append]
  have:(l.take k).filter (fun x=>!p x) = l.take k:=List.filter_eq_self.2 fun a ha=>by simp [k4 a ha]
  rw [this]; simp [hpx]
end
theorem Zds (n:Nat) (r:ApiRung) (hs:r.Contacts.length <= 1000000) (hn:4 * r.Contacts.length + 20 <= n):∃ l,Z2N n r (⟨#[76]⟩:Str) = some l /\ l.length <= 2 + 2 * r.Contacts.length /\ ∀ x,x ∈ l ↔ Z4C r.Contacts x /\ RchReachable r.Contacts (⟨#[76]⟩:Str) x:=by
 obtain ⟨l,e1,e2⟩:=ZgT n r hs hn
 refine ⟨l,e1,e2,?_⟩
 obtain ⟨ns,a1,a2,a3⟩:=Z93 n r (by omega) hs
 have hlen:=a2.len
 have hmem:(⟨#[76]⟩:Str) ∈ ns:=a2.L
 rw [Z2N,Z3T,a1,Option.bind_some,Z4P n ns _ (by omega) (by omega),Option.bind_some,if_neg (by simp [hmem])] at e1
 obtain ⟨l2,e1,h3⟩:=Option.bind_eq_some_iff.1 e1
 cases h3
 obtain ⟨m,h1,e1⟩:=Option.bind_eq_some_iff.1 e1
 obtain ⟨l3,e1,h3⟩:=Option.bind_eq_some_iff.1 e1
 cases h3
 obtain ⟨v1,v2,v3⟩:=Z8P r hs n _ [] m h1
 have hf:=Zar n m ns l (by omega) (fun x=>!(hasM m x)) (fun x=>rfl) e1
 have hiff:∀ x,hasM m x = true ↔ RchReachable r.Contacts (⟨#[76]⟩:Str) x:=fun x=>by
  constructor
  ·intro h
   rcases v3 x h with g | g
   ·cases g
   ·exact g
  ·intro h
   induction h with
   | refl=>exact v2
   | step h1 _ ih=>exact v1.closed _ ih rfl _ h1 rfl
 intro x
 rw [hf,List.mem_filter,a3,<- hiff]
 simp
theorem Zdc (n:Nat) (r:ApiRung) (hs:r.Contacts.length <= 1000000) (hn:4 * r.Contacts.length + 20 <= n):∃ l,Z2K n r (⟨#[82]⟩:Str) = some l /\ l.length <= 2 + 2 * r.Contacts.length /\ ∀ x,x ∈ l ↔ Z4C r.Contacts x /\ RchAncestors r.Contacts (⟨#[82]⟩:Str) x:=by
 obtain ⟨l,e1,e2⟩:=ZgE n r hs hn
 refine ⟨l,e1,e2,?_⟩
 obtain ⟨ns,a1,a2,a3⟩:=Z93 n r (by omega) hs
 have hlen:=a2.len
 have hmem:(⟨#[82]⟩:Str) ∈ ns:=a2.R
 rw [Z2K,Z3U,a1,Option.bind_some,Z4P n ns _ (by omega) (by omega),Option.bind_some,if_neg (by simp [hmem])] at e1
 obtain ⟨l2,e1,h3⟩:=Option.bind_eq_some_iff.1 e1
 cases h3
 obtain ⟨m,h1,e1⟩:=Option.bind_eq_some_iff.1 e1
 obtain ⟨l3,e1,h3⟩:=Option.bind_eq_some_iff.1 e1
 cases h3
 obtain ⟨v1,v2,v3⟩:=Z8R r hs n _ [] m h1
 have hf:=Zar n m ns l (by omega) (fun x=>!(hasM m x)) (fun x=>rfl) e1
 have hiff:∀ x,hasM m x = true ↔ RchAncestors r.Contacts (⟨#[82]⟩:Str) x:=fun x=>by
  constructor
  ·intro h
   rcases v3 x h with g | g
   ·cases g
   ·exact g
  ·intro h
   induction h with
   | refl=>exact v2
   | step h1 _ ih=>exact v1.closed _ ih rfl _ h1 rfl
 intro x
 rw [hf,List.mem_filter,a3,<- hiff]
 simp
open Classical in
noncomputable def flowS (cs:List ApiContact):Int :=
 if cs = [] then 4 else if ¬ Acyc cs then 12 else if ∃ x,Z4C cs x /\ ¬ (RchReachable cs strLL x /\ RchAncestors cs strRR x) then 13 else 0
theorem Zdb (n:Nat) (r:ApiRung) (hs:r.Contacts.length <= 1000000) (hn:4 * r.Contacts.length + 20 <= n):Z58 n r = some (flowS r.Contacts):=by
 rw [Z58]
 by_cases h0:r.Contacts = []
 ·rw [flowS,if_pos h0,if_pos (by simp [h0])]
 rw [flowS,if_neg h0,if_neg (by simpa using h0)]
 obtain ⟨s,e,a1,a2⟩:=Zeo n r hs (by omega)
 have hcode:e = 0 \/ e = 12:=by
  have a1':=a1
  rw [Z2F] at a1'
  obtain ⟨ns,_,h⟩:=Option.bind_eq_some_iff.1 a1'
  exact Zfm n r n ns [] [] s e h
 rw [a1,Option.bind_some]
 dsimp only
 by_cases he:e = 0
 ·rw [if_neg (by simpa using he),if_neg (fun h=>h (a2.1 he))]
  obtain ⟨l1,b1,b1',b1''⟩:=Zds n r hs hn
  obtain ⟨l2,b2,b2',b2''⟩:=Zdc n r hs hn
  obtain ⟨ns,c1,c2,c3⟩:=Z93 n r (by omega) hs
  have hlen:=c2.len
  have hp:∀ x,Z15 n x l1 l2 = some (decide (x ∈ l1) && decide (x ∈ l2)):=fun x=>by
   rw [Z15,Z4P n l1 x (by omega) (by omega),Option.bind_some]
   by_cases h:x ∈ l1
   ·rw [if_pos (by simpa using h),Z4P n l2 x (by omega) (by omega),Option.bind_some]; simp [h]
   ·rw [if_neg (by simpa using h)]; simp [h]
  obtain ⟨l,d1,_⟩:=Zik n l1 l2 ns (by omega) (by omega) (fun x=>⟨_,hp x⟩)
  have hf:=Zfn n l1 l2 ns l (by omega) _ hp d1
  rw [Z6a,b1,Option.bind_some,b2,Option.bind_some,c1,Option.bind_some,d1,Option.bind_some,Option.bind_some]
  have hiff:(0 < l.length) ↔ ∃ x,Z4C r.Contacts x /\ ¬ (RchReachable r.Contacts strLL x /\ RchAncestors r.Contacts strRR x):=by
   constructor
   ·intro h
    obtain ⟨x,hx⟩:=List.exists_mem_of_length_pos h
    rw [hf,List.mem_filter,c3] at hx
    refine ⟨x,hx.1,fun ⟨q1,q2⟩=>?_⟩
    have:=hx.2
    simp [(b1'' x).2 ⟨hx.1,q1⟩,(b2'' x).2 ⟨hx.1,q2⟩] at this
   ·rintro ⟨x,h1,h2⟩
    refine List.length_pos_of_mem (a:=x) ?_
    rw [hf,List.mem_filter,c3]
    refine ⟨h1,?_⟩
    by_cases q1:x ∈ l1
    ·by_cases q2:x ∈ l2
     ·exact absurd ⟨((b1'' x).1 q1).2,((b2'' x).1 q2).2⟩ h2
     ·simp [q2]
    ·simp [q1]
  by_cases hl:0 < l.length
  ·rw [if_pos (by simpa using hl),if_pos (hiff.1 hl)]
  ·rw [if_neg (by simpa using hl),if_neg (fun h=>hl (hiff.2 h))]
 ·rw [if_pos (by simpa using he),if_pos (fun h=>he (a2.2 h))]
  rcases hcode with h | h
  ·exact absurd h he
  ·rw [h]
end Go.G
namespace Go.G
open Go.Av
mutual
def ofT:TreeTree -> Ref14Tree
 | .mk K N ks=>.mk K N (ofL ks)
def ofL:List TreeTree -> List Ref14Tree
 | []=>[]
 | k :: ks=>ofT k :: ofL ks
end
theorem Zey:∀ ks:List TreeTree,ofL ks = ks.map ofT
 | []=>rfl
 | k :: ks=>by rw [ofL,Zey ks]; rfl
theorem Z2g (t:TreeTree):(ofT t).Kind = t.Kind:=by cases t; rfl
theorem ofT_N (t:TreeTree):(ofT t).N = t.N:=by cases t; rfl
theorem Z5V (t:TreeTree):(ofT t).Kids = t.Kids.map ofT:=by cases t; exact Zey _
theorem Ze6 (K N:Int) (ks:List TreeTree):ofT (.mk K N ks) = .mk K N (ks.map ofT):=by rw [ofT,Zey]
theorem Z3j {α β:Type} (f:α -> β) (l:List α) (i:Nat) {x:α} (h:l[i]? = some x):atI (l.map f) (i:Int) = some (f x):=by rw [Z2]; simp [h]
theorem Z8S (t:TreeTree) (slf:Ref14Tree -> Option (List Int)) (hs:szL t.Kids <= 500000000) (hf:∀ k ∈ t.Kids,slf (ofT k) = some (lv k)):∀ (k i:Nat) (acc:List Int),acc.length + szL (t.Kids.drop i) <= 1000000000 -> i <= t.Kids.length -> t.Kids.length - i < k ->
 Z3O (ofT t) slf k acc (i:Int) = some (acc ++ lvs (t.Kids.drop i))
 | 0,i,acc,ha,h,hk=>absurd hk (Nat.not_lt_zero _)
 | k + 1,i,acc,ha,h,hk=>by
   have hl:=Z36 t.Kids
   rw [Z3O,Z5V]
   by_cases hi:i < t.Kids.length
   ·obtain ⟨x,hx⟩:=Z8 hi
    have hx2:=Zbb x
    rw [Z9 hx,szL] at ha
    rw [if_pos (by simpa using hi),Z3j ofT _ _ hx,Option.bind_some,hf x (List.mem_of_getElem? hx),Option.bind_some,if_pos (by omega),Option.bind_some,wrapN (by omega),Z9 hx,lvs]
    rw [Z8S t slf hs hf k (i + 1) (acc ++ lv x) (by rw [List.length_append]; omega) (by omega) (by omega),List.append_assoc]
   ·rw [if_neg (by simpa using hi),List.drop_eq_nil_of_le (by omega)]; simp [lvs]
theorem Zdf:∀ (t:TreeTree) (n:Nat),szT t <= 500000000 -> szT t < n -> Z26 n (ofT t) = some (lv t):=by
 intro t
 induction t using Z25 with
 | h K N ks ih =>
   intro n hb hn
   obtain ⟨m,rfl,hlen,hk⟩:=Z5i hn
   have hsz:szT (.mk K N ks) = 1 + szL ks:=by rw [szT]
   have hkb:∀ k ∈ ks,szT k <= 500000000:=fun k hk=>by have:=Z3J hk; omega
   have hloop:=Z8S (.mk K N ks) (Z26 m) (by rw [Z1]; omega) (fun k hk'=>ih k hk' m (hkb k hk') (hk k hk')) m 0 [] (by rw [Z1,List.drop_zero,List.length_nil]; omega) (by omega) (by simpa [Z1] using hlen)
   rw [Z1,List.drop_zero,List.nil_append,show ((0:Nat):Int) = 0 from rfl] at hloop
   rw [Z26,lv]
   simp only [Z2g,ofT_N,Zi,Z1v,Z4z,Option.bind_some]
   rw [hloop]
   by_cases h0:K = 0
   ·simp [h0]
   by_cases h1:K = 1
   ·simp [h1]
   by_cases h2:K = 2
   ·simp [h2]
   ·simp [h0,h1,h2]
theorem ZiK (a:Int):imin a a = a:=by unfold imin; split <;> rfl
theorem Z9a (l:List Int) (hs:l.length <= 1000000000):∀ (m i:Nat) (x:Int),i <= l.length -> l.length - i < m -> Z3b l m (i:Int) x = some ((l.drop i).foldl imin x)
 | 0,i,x,h,hm=>absurd hm (Nat.not_lt_zero _)
 | m + 1,i,x,h,hm=>by
   rw [Z3b]
   by_cases hi:i < l.length
   ·obtain ⟨y,hy⟩:=Z8 hi
    rw [if_pos (by simpa using hi),Z2,hy,Option.bind_some,Z9 hy,List.foldl_cons,wrapN (by omega)]
    by_cases hlt:y < x
    ·rw [if_pos (by simpa using hlt),Z9a l hs m (i + 1) _ (by omega) (by omega),imin,if_pos hlt]
    ·rw [if_neg (by simpa using hlt),Z9a l hs m (i + 1) _ (by omega) (by omega),imin,if_neg hlt]
   ·rw [if_neg (by simpa using hi),List.drop_eq_nil_of_le (by omega)]; rfl
theorem ZeK (n:Nat) (t:TreeTree) (h:lv t ≠ []) (hb:szT t <= 100000000) (hn:szT t < n):Z5y n (ofT t) = some (ZJ t):=by
 have hl:=Zbb t
 rw [Z5y,Zdf t n (by omega) hn,Option.bind_some]
 unfold ZJ
 cases he:lv t with
 | nil=>exact absurd he h
 | cons x l =>
   rw [he] at hl
   rw [show (0:Int) = ((0:Nat):Int) from rfl,Z2]
   simp only [List.getElem?_cons_zero,Option.bind_some]
   rw [Z9a (x :: l) (by omega) n 0 x (by omega) (by omega),List.drop_zero,List.foldl_cons,ZiK]
   rfl
def insR (x:TreeTree):List TreeTree -> List TreeTree
 | []=>[x]
 | b :: l=>if ZJ b < ZJ x then b :: insR x l else x :: b :: l
def AscT (l:List TreeTree):Prop:=l.Pairwise fun a b=>ZJ a <= ZJ b
theorem Zb8 (x:TreeTree):∀ l:List TreeTree,(insR x l).Perm (x :: l)
 | []=>.refl _
 | b :: l=>by
   rw [insR]
   split
   ·exact ((Zb8 x l).cons b).trans (List.Perm.swap _ _ _)
   ·exact .refl _
theorem ZgB (x:TreeTree):∀ l:List TreeTree,AscT l -> AscT (insR x l)
 | [],_=>by simp [insR,AscT]
 | b :: l,h=>by
   have h':=List.pairwise_cons.1 h
   rw [insR]
   by_cases hlt:ZJ b < ZJ x
   ·rw [if_pos hlt]
    refine List.pairwise_cons.2 ⟨fun c hc=>?_,ZgB x l h'.2⟩
    rcases List.mem_cons.1 ((Zb8 x l).subset hc) with rfl | hc
    ·omega
    ·exact h'.1 c hc
   ·rw [if_neg hlt]
    refine List.pairwise_cons.2 ⟨fun c hc=>?_,h⟩
    rcases List.mem_cons.1 hc with rfl | hc
    ·omega
    ·have:=h'.1 c hc; omega
theorem Zjz {l js:List TreeTree} (ha:AscT l) (hp:l.Perm js) (hd:(js.map ZJ).Nodup):l = Z20 ltT js:=by
 have p:=ZfU hd
 rw [<- ZeD]
 refine p.unique (fun x hx=>hp.subset hx) (hp.trans (Z1Q _ js).symm) ?_ p.asc
 refine ha.imp fun h=>?_
 rw [ZeD]
 simp only [ltT,decide_eq_false_iff_not]
 omega
section
variable (n:Nat)
def Sm (n:Nat) (l:List TreeTree):Prop:=l.length <= 1000000 /\ ∀ t ∈ l,lv t ≠ [] /\ szT t <= 100000000 /\ szT t < n
theorem Zgb (all out:List TreeTree) (hall:Sm n all) (hout:Sm n out) (j:Nat) (x:TreeTree) (hx:all[j]? = some x) (R:List Ref14Tree -> Int -> Option Ref14Tree):∀ (m i:Nat),i <= out.length -> out.length - i < m -> (∀ b ∈ out.take i,ZJ b < ZJ x) ->
 Z4r n (all.map ofT) (out.map ofT) (j:Int) R m (i:Int) = R ((insR x out).map ofT) ((j + 1:Nat):Int)
 | 0,i,h,hm,_=>absurd hm (Nat.not_lt_zero _)
 | m + 1,i,h,hm,ht=>by
   have hjl:=Zd hx
   have hxs:=hall.2 x (List.mem_of_getElem? hx)
   have hl1:=hall.1; have hl2:=hout.1
   have hsplit:∀ (l:List TreeTree) (i:Nat),i <= l.length -> (∀ b ∈ l.take i,ZJ b < ZJ x) -> (∀ b,(l.drop i).head? = some b -> ¬ ZJ b < ZJ x) -> insR x l = l.take i ++ x :: l.drop i:=by
    intro l
    induction l with
    | nil=>intro i _ _ _; simp [insR]
    | cons b l ih =>
      intro i hi h1 h2
      match i with
      | 0 =>
       rw [insR,if_neg (h2 b rfl)]; rfl
      | i + 1 =>
        rw [insR,if_pos (h1 b (by simp)),ih i (by simpa using hi) (fun c hc=>h1 c (by simp [hc])) h2]; rfl
   have hJ3:(∀ b,(out.drop i).head? = some b -> ¬ ZJ b < ZJ x) -> Z4p (all.map ofT) (out.map ofT) (j:Int) R (i:Int) = R ((insR x out).map ofT) ((j + 1:Nat):Int):=fun hh=>by
    rw [Z4p,Int.toNat_natCast,if_pos (by rw [List.length_map]; omega),if_pos (by simp; omega),Option.bind_some,Z3j ofT all j hx,Option.bind_some,if_pos (by simp; omega),Option.bind_some,if_pos (by rw [List.length_map]; omega),if_pos (by simp; omega),Option.bind_some,wrapN (by omega),hsplit out i h ht hh]
    simp
   rw [Z4r,List.length_map]
   by_cases hi:i < out.length
   ·obtain ⟨b,hb⟩:=Z8 hi
    have hbs:=hout.2 b (List.mem_of_getElem? hb)
    rw [if_pos (by simpa using hi),Z3j ofT out i hb,Option.bind_some,ZeK n b hbs.1 hbs.2.1 hbs.2.2,Option.bind_some,Z3j ofT all j hx,Option.bind_some,ZeK n x hxs.1 hxs.2.1 hxs.2.2,Option.bind_some]
    by_cases hlt:ZJ b < ZJ x
    ·rw [if_pos (by simpa using hlt),wrapN (by omega)]
     refine Zgb all out hall hout j x hx R m (i + 1) (by omega) (by omega) fun c hc=>?_
     rw [List.take_add_one,hb] at hc
     rcases List.mem_append.1 hc with hc | hc
     ·exact ht c hc
     ·simp at hc; subst hc; exact hlt
    ·rw [if_neg (by simpa using hlt)]
     refine hJ3 fun c hc=>?_
     rw [Z9 hb] at hc
     simp at hc; subst hc; exact hlt
   ·rw [if_neg (by simpa using hi)]
    refine hJ3 fun c hc=>?_
    rw [List.drop_eq_nil_of_le (by omega)] at hc; cases hc
theorem ZhI (all:List TreeTree) (hall:Sm n all) (hn:2 * all.length + 10 < n):∀ (m j:Nat) (out:List TreeTree),j <= all.length -> all.length - j < m -> out.Perm (all.take j) -> AscT out ->
 ∃ l,Z31 n (all.map ofT) m (out.map ofT) (j:Int) = some (.mk 2 0 (l.map ofT)) /\ l.Perm all /\ AscT l
 | 0,j,out,h,hm,_,_=>absurd hm (Nat.not_lt_zero _)
 | m + 1,j,out,h,hm,hp,ha=>by
   have hl1:=hall.1
   have hol:out.length <= all.length:=by rw [hp.length_eq,List.length_take]; omega
   have hout:Sm n out:=⟨by omega,fun t ht=>hall.2 t (List.mem_of_mem_take (hp.subset ht))⟩
   rw [Z31,List.length_map]
   by_cases hj:j < all.length
   ·obtain ⟨x,hx⟩:=Z8 hj
    rw [if_pos (by simpa using hj),show (0:Int) = ((0:Nat):Int) from rfl,Zgb n all out hall hout j x hx _ n 0 (by omega) (by omega) (by simp)]
    refine ZhI all hall hn m (j + 1) (insR x out) (by omega) (by omega) ?_ (ZgB x out ha)
    rw [List.take_add_one,hx]
    exact (Zb8 x out).trans ((hp.cons x).trans (List.perm_append_comm (l₁:=[x])))
   ·rw [if_neg (by simpa using hj)]
    exact ⟨out,rfl,by rw [List.take_of_length_le (by omega)] at hp; exact hp,ha⟩
theorem Z8f (K:Int) (l:List TreeTree) (hl2:l.length = 2) (hs:∀ t ∈ l,t.Kids.length <= 1000000):∀ (m i:Nat) (acc:List TreeTree),i <= 2 -> 2 - i < m -> acc.length <= 1000001 * i -> Z3S n K (l.map ofT) m (acc.map ofT) (i:Int) = Z4t n K ((acc ++ (l.drop i).flatMap (joinK K)).map ofT)
 | 0,i,acc,h,hm,_=>absurd hm (Nat.not_lt_zero _)
 | m + 1,i,acc,h,hm,ha=>by
   rw [Z3S]
   by_cases hi:i < 2
   ·obtain ⟨x,hx⟩:=Z8 (l:=l) (i:=i) (by omega)
    have hxs:=hs x (List.mem_of_getElem? hx)
    rw [if_pos (by simp; omega),Z3j ofT l i hx,Option.bind_some,Z2g,Z5V,Z9 hx,List.flatMap_cons]
    by_cases hk:x.Kind = K
    ·have e:joinK K x = x.Kids:=by rw [joinK,if_pos hk]
     rw [if_pos (by simpa using hk),if_pos (by simp; omega),Option.bind_some,wrapN (by omega),<- List.map_append,Z8f K l hl2 hs m (i + 1) _ (by omega) (by omega) (by simp; omega),e,List.append_assoc]
    ·have e:joinK K x = [x]:=by rw [joinK,if_neg hk]
     have e2:acc.map ofT ++ [ofT x] = (acc ++ [x]).map ofT:=by simp
     rw [if_neg (by simpa using hk),if_pos (by simp; omega),Option.bind_some,wrapN (by omega),e2,Z8f K l hl2 hs m (i + 1) _ (by omega) (by omega) (by simp; omega),e,List.append_assoc]
   ·rw [if_neg (by simp; omega),List.drop_eq_nil_of_le (by omega)]; simp
theorem Zjk (hn:1000000 <= n) (a b:TreeTree) (hs:Sm n (joinK 2 a ++ joinK 2 b)) (ha:a.Kids.length <= 1000) (hb:b.Kids.length <= 1000) (hd:((joinK 2 a ++ joinK 2 b).map ZJ).Nodup):Z3n n 2 (ofT a) (ofT b) = some (ofT (.mk 2 0 (Z20 ltT (joinK 2 a ++ joinK 2 b)))):=by
 have hkl:∀ c:TreeTree,c.Kids.length <= 1000 -> (joinK 2 c).length <= 1001:=fun c hc=>by
  unfold joinK
  split
  ·omega
  ·simp
 have h1:=hkl a ha; have h2:=hkl b hb
 have e0:[ofT a,ofT b] = [a,b].map ofT:=rfl
 rw [Z3n,Option.bind_some,e0,show (0:Int) = ((0:Nat):Int) from rfl,show ([]:List Ref14Tree) = ([]:List TreeTree).map ofT from rfl,Z8f n 2 [a,b] rfl (fun t ht=>by
  rcases List.mem_cons.1 ht with rfl | ht
  ·omega
  ·rw [List.mem_singleton] at ht; subst ht; omega) n 0 [] (by omega) (by omega) (by simp)]
 have e1:([]:List TreeTree) ++ ([a,b].drop 0).flatMap (joinK 2) = joinK 2 a ++ joinK 2 b:=by simp
 rw [e1,Z4t,if_neg (by decide),show (0:Int) = ((0:Nat):Int) from rfl,show ([]:List Ref14Tree) = ([]:List TreeTree).map ofT from rfl]
 obtain ⟨l,r1,r2,r3⟩:=ZhI n (joinK 2 a ++ joinK 2 b) hs (by simp; omega) n 0 [] (by omega) (by simp; omega) (by simp) (by simp [AscT])
 rw [r1,Zjz r3 r2 hd,Ze6]
 rfl
theorem Zjg (hn:1000000 <= n) (a b:TreeTree) (ha:a.Kids.length <= 1000) (hb:b.Kids.length <= 1000):Z3n n 1 (ofT a) (ofT b) = some (ofT (.mk 1 0 (joinK 1 a ++ joinK 1 b))):=by
 have e0:[ofT a,ofT b] = [a,b].map ofT:=rfl
 rw [Z3n,Option.bind_some,e0,show (0:Int) = ((0:Nat):Int) from rfl,show ([]:List Ref14Tree) = ([]:List TreeTree).map ofT from rfl,Z8f n 1 [a,b] rfl (fun t ht=>by
  rcases List.mem_cons.1 ht with rfl | ht
  ·omega
  ·rw [List.mem_singleton] at ht; subst ht; omega) n 0 [] (by omega) (by omega) (by simp)]
 have e1:([]:List TreeTree) ++ ([a,b].drop 0).flatMap (joinK 1) = joinK 1 a ++ joinK 1 b:=by simp
 rw [e1,Z4t,if_pos (by decide),Ze6]
 rfl
end
end Go.G
namespace Go.G
open Go.Av
def cg (cs:List ApiContact) (N:Int):ApiContact:=(cs[N.toNat]?).getD default
def ig (sl:List Int) (N:Int):Int:=(sl[N.toNat]?).getD 0
def ldOp (k:Int):Int:=if k = 0 then 0 else if k = 1 then 1 else if k = 2 then 6 else 7
def jnOp (K k:Int):Int:=if K = 1 then (if k = 0 then 2 else 3) else (if k = 0 then 4 else 5)
def ppOp (K:Int):Int:=if K = 1 then 9 else 10
def seesS (c:ApiContact):Bool:=c.Kind == 2 || c.Kind == 3
theorem Z78 (n:Nat) (c:ApiContact):Z4i n c = some (seesS c):=by
 rw [Z4i,seesS]
 cases h:(c.Kind == 2) <;> simp
mutual
def layS (cs:List ApiContact) (sl:List Int):TreeTree -> List ApiIns
 | .mk K N ks=>if K = 0 then [⟨ldOp (cg cs N).Kind,(cg cs N).A,ig sl N⟩] else layH cs sl K ks
def layH (cs:List ApiContact) (sl:List Int) (K:Int):List TreeTree -> List ApiIns
 | []=>[]
 | k :: ks=>layS cs sl k ++ layT cs sl K ks
def layT (cs:List ApiContact) (sl:List Int) (K:Int):List TreeTree -> List ApiIns
 | []=>[]
 | k :: ks=>(if k.Kind = 0 /\ seesS (cg cs k.N) = false then [⟨jnOp K (cg cs k.N).Kind,(cg cs k.N).A,0⟩] else ⟨8,⟨0,0⟩,0⟩ :: (layS cs sl k ++ [⟨ppOp K,⟨0,0⟩,0⟩])) ++ layT cs sl K ks
end
theorem Zgw (cs:List ApiContact) (sl:List Int) (K:Int):∀ ks:List TreeTree,(∀ k ∈ ks,(layS cs sl k).length + 2 <= 3 * szT k) -> (layT cs sl K ks).length <= 3 * szL ks
 | [],_=>by simp [layT]
 | k :: ks,h=>by
   have h1:=h k (by simp)
   have h2:=Zgw cs sl K ks fun k hk=>h k (by simp [hk])
   have h3:=Z8k k
   rw [layT,szL,List.length_append]
   split
   ·simp only [List.length_singleton]; omega
   ·simp only [List.length_cons,List.length_append,List.length_nil]; omega
theorem Z6D (cs:List ApiContact) (sl:List Int):∀ t:TreeTree,(layS cs sl t).length + 2 <= 3 * szT t:=by
 intro t
 induction t using Z25 with
 | h K N ks ih =>
   rw [layS,szT]
   split
   ·simp only [List.length_singleton]; omega
   ·cases ks with
    | nil=>simp [layH,szL]
    | cons k ks =>
      have h1:=ih k (by simp)
      have h2:=Zgw cs sl K ks fun k hk=>ih k (by simp [hk])
      rw [layH,List.length_append,szL]
      omega
theorem Z7O (n:Nat) (x:ApiIns) (b0:Str) (cs:List ApiContact) (b2:List ApiCoil) (b3:Str) (sl:List Int) (code:List ApiIns) (h:code.length + 1 <= 1000000000) :
 Zf n x b0 cs b2 b3 sl code = some (code ++ [x]):=by
 rw [Zf,if_pos (by simpa using h)]; rfl
theorem cg_at {cs:List ApiContact} {N:Int} (h0:0 <= N) (h:N < cs.length):atI cs N = some (cg cs N):=by
 obtain ⟨m,rfl⟩:=Int.eq_ofNat_of_zero_le h0
 have hm:m < cs.length:=by omega
 rw [Z2,cg,Int.toNat_natCast,List.getElem?_eq_getElem hm]; rfl
theorem ig_at {sl:List Int} {N:Int} (h0:0 <= N) (h:N < sl.length):atI sl N = some (ig sl N):=by
 obtain ⟨m,rfl⟩:=Int.eq_ofNat_of_zero_le h0
 have hm:m < sl.length:=by omega
 rw [Z2,ig,Int.toNat_natCast,List.getElem?_eq_getElem hm]; rfl
def KindsOk (cs:List ApiContact):Prop:=∀ c ∈ cs,0 <= c.Kind /\ c.Kind < 4
theorem KindsOk.cg {cs:List ApiContact} (h:KindsOk cs) {N:Int} (h0:0 <= N) (h1:N < cs.length):0 <= (cg cs N).Kind /\ (cg cs N).Kind < 4:=by
 obtain ⟨m,rfl⟩:=Int.eq_ofNat_of_zero_le h0
 have hm:m < cs.length:=by omega
 have e:Go.G.cg cs (m:Int) = cs[m]:=by rw [Go.G.cg,Int.toNat_natCast,List.getElem?_eq_getElem hm]; rfl
 rw [e]; exact h _ (List.getElem_mem hm)
theorem Zew {len:Int} {k:TreeTree} (hk:Ok len k) (h0:k.Kind = 0):0 <= k.N /\ k.N < len:=by
 obtain ⟨K,N,ks⟩:=k
 rw [Zi] at h0
 subst h0
 rw [Ok] at hk
 rcases hk with ⟨_,_,h⟩ | ⟨h | h,_⟩
 ·exact h
 ·omega
 ·omega
section
variable {cs:List ApiContact} {sl:List Int} (hk:KindsOk cs) (hsl:sl.length = cs.length) (b0:Str) (b2:List ApiCoil) (b3:Str)
include hk hsl
theorem ZfS (n:Nat) (t:TreeTree) (hK:t.Kind = 1 \/ t.Kind = 2) (ks:List TreeTree) (hs:ks.length <= 1000000000) (hOk:∀ k ∈ ks,Ok cs.length k)
 (slf:TreeTree -> Str -> List ApiContact -> List ApiCoil -> Str -> List Int -> List ApiIns -> Option (List ApiIns))
 (hf:∀ k ∈ ks,∀ code:List ApiIns,code.length + 3 * szT k <= 1000000002 -> slf k b0 cs b2 b3 sl code = some (code ++ layS cs sl k)) :
 ∀ (m i:Nat) (code:List ApiIns),i <= ks.length -> ks.length - i < m -> code.length + 3 * szL (ks.drop i) <= 1000000000 ->
 Zh n t b0 cs b2 b3 sl ks slf m code (i:Int) = some (code ++ layT cs sl t.Kind (ks.drop i))
 | 0,i,code,h,hm,_=>absurd hm (Nat.not_lt_zero _)
 | m + 1,i,code,h,hm,hc=>by
   rw [Zh]
   by_cases hi:i < ks.length
   ·obtain ⟨x,hx⟩:=Z8 hi
    have hmem:=List.mem_of_getElem? hx
    rw [Z9 hx,szL] at hc
    have hp:=Z8k x
    have hlx:=Z6D cs sl x
    have ih:=fun code' (h':code'.length + 3 * szL (ks.drop (i + 1)) <= 1000000000)=>ZfS n t hK ks hs hOk slf hf m (i + 1) code' (by omega) (by omega) h'
    rw [if_pos (by simpa using hi),Z2,hx,Option.bind_some,Z9 hx,layT]
    have hpush:Z1G n t b0 cs b2 b3 sl code (i:Int) (Zh n t b0 cs b2 b3 sl ks slf m) x slf
     = some (code ++ ((⟨8,⟨0,0⟩,0⟩ :: (layS cs sl x ++ [⟨ppOp t.Kind,⟨0,0⟩,0⟩])) ++ layT cs sl t.Kind (ks.drop (i + 1)))):=by
     rw [Z1G,Z7O _ _ _ _ _ _ _ _ (by omega),Option.bind_some,hf x hmem _ (by simp; omega),Option.bind_some,wrapN (by omega)]
     have h0:¬ t.Kind = 0:=by omega
     rw [if_neg h0]
     rcases hK with hK | hK
     ·rw [if_pos hK,Z7O _ _ _ _ _ _ _ _ (by simp; omega),Option.bind_some,ih _ (by simp; omega)]
      simp [ppOp,hK]
     ·rw [if_neg (by omega),if_pos hK,Z7O _ _ _ _ _ _ _ _ (by simp; omega),Option.bind_some,ih _ (by simp; omega)]
      simp [ppOp,hK]
    by_cases hk0:x.Kind = 0
    ·obtain ⟨n0,n1⟩:=Zew (hOk x hmem) hk0
     rw [if_pos (by simpa using hk0),cg_at n0 n1,Option.bind_some,Z78,Option.bind_some]
     obtain ⟨c0,c1⟩:=hk.cg n0 n1
     cases hse:seesS (cg cs x.N) with
     | true =>
       rw [if_neg (show ¬ (!true) = true by simp),if_neg (show ¬ (x.Kind = 0 /\ true = false) by simp)]
       exact hpush
     | false =>
       rw [if_pos (show (!false) = true from rfl),if_pos (show x.Kind = 0 /\ false = false from ⟨hk0,rfl⟩)]
       have hkd:(cg cs x.N).Kind = 0 \/ (cg cs x.N).Kind = 1:=by
        simp only [seesS,Bool.or_eq_false_iff,beq_eq_false_iff_ne] at hse
        omega
       have h0:¬ t.Kind = 0:=by omega
       rw [if_neg h0,wrapN (by omega)]
       rcases hK with hK | hK <;> rcases hkd with hkd | hkd
       ·rw [if_pos hK,if_pos hkd,Z7O _ _ _ _ _ _ _ _ (by omega),Option.bind_some,ih _ (by simp; omega)]
        simp [jnOp,hK,hkd]
       ·rw [if_pos hK,if_neg (by omega),if_pos hkd,Z7O _ _ _ _ _ _ _ _ (by omega),Option.bind_some,ih _ (by simp; omega)]
        simp [jnOp,hK,hkd]
       ·rw [if_neg (by omega),if_pos hK,if_pos hkd,Z7O _ _ _ _ _ _ _ _ (by omega),Option.bind_some,ih _ (by simp; omega)]
        simp [jnOp,hK,hkd]
       ·rw [if_neg (by omega),if_pos hK,if_neg (by omega),if_pos hkd,Z7O _ _ _ _ _ _ _ _ (by omega),Option.bind_some,ih _ (by simp; omega)]
        simp [jnOp,hK,hkd]
    ·rw [if_neg (by simpa using hk0),if_neg (fun q=>hk0 q.1)]
     exact hpush
   ·rw [if_neg (by simpa using hi),List.drop_eq_nil_of_le (by omega),layT,List.append_nil]
theorem ZkZ:∀ (t:TreeTree) (n:Nat) (code:List ApiIns),Ok cs.length t -> szT t <= 300000000 -> code.length + 3 * szT t <= 1000000002 -> szT t < n -> ZC n t b0 cs b2 b3 sl code = some (code ++ layS cs sl t):=by
 intro t
 induction t using Z25 with
 | h K N ks ih =>
   intro n code hOk hb hc hn
   obtain ⟨m,rfl,hlen,hkm⟩:=Z5i hn
   rw [ZC,layS]
   rw [szT] at hc hb
   rw [Ok] at hOk
   rcases hOk with ⟨rfl,rfl,n0,n1⟩ | ⟨hK,rfl,h2,hne,hks⟩
   ·obtain ⟨c0,c1⟩:=hk.cg n0 n1
    rw [if_pos (show (0:Int) = 0 from rfl),if_pos (show ((TreeTree.mk 0 N []).Kind == 0) = true from rfl)]
    simp only [Zi,Z1v,Z1]
    rw [cg_at n0 n1,Option.bind_some,ig_at n0 (by omega)]
    have hkd:(cg cs N).Kind = 0 \/ (cg cs N).Kind = 1 \/ (cg cs N).Kind = 2 \/ (cg cs N).Kind = 3:=by omega
    have hl1:code.length + 1 <= 1000000000:=by omega
    rcases hkd with hkd | hkd | hkd | hkd <;> simp [hkd,ldOp,Z7O _ _ _ _ _ _ _ _ hl1]
   ·rw [OkL_iff] at hks
    have hK0:¬ K = 0:=by omega
    rw [if_neg (show ¬ ((TreeTree.mk K 0 ks).Kind == 0) = true by rw [Zi]; simpa using hK0),if_neg hK0,Z1]
    match ks,h2,hc,hb,hks,ih,hlen,hkm with
    | k :: ks,h2,hc,hb,hks,ih,hlen,hkm =>
      rw [szL] at hc hb
      have hlk:=Z6D cs sl k
      have hll:=Z36 ks
      rw [show atI (k :: ks) 0 = some k from rfl,Option.bind_some,ih k (by simp) m code (hks k (by simp)) (by omega) (by omega) (hkm k (by simp)),Option.bind_some]
      rw [if_pos (by simp; omega)]
      simp only [List.drop_succ_cons,List.drop_zero,Option.bind_some]
      have:=ZfS hk hsl b0 b2 b3 m (.mk K 0 (k :: ks)) hK ks (by omega) (fun j hj=>hks j (by simp [hj])) (ZC m)
       (fun j hj code' h'=>ih j (by simp [hj]) m code' (hks j (by simp [hj])) (by have:=Z3J hj; omega) h' (hkm j (by simp [hj]))) m 0 (code ++ layS cs sl k) (by omega) (by simp at hlen; omega) (by simp; omega)
      rw [show ((0:Nat):Int) = 0 from rfl,List.drop_zero] at this
      rw [this,layH,List.append_assoc]
      rfl
end
def Z1j:List ApiContact -> Int -> List Int
 | [],_=>[]
 | c :: cs,s=>if seesS c then s :: Z1j cs (s + 1) else 0 :: Z1j cs s
theorem Zdw:∀ (cs:List ApiContact) (s:Int),(Z1j cs s).length = cs.length
 | [],_=>rfl
 | c :: cs,s=>by rw [Z1j]; split <;> simp [Zdw]
theorem Zaf (n:Nat) (r:ApiRung) (t:TreeTree) (hs:r.Contacts.length <= 1000000):∀ (m i:Nat) (s:Int) (pre:List Int),i <= r.Contacts.length -> r.Contacts.length - i < m -> pre.length = i -> 0 <= s -> s + (r.Contacts.length - i:Nat) <= 100000000 ->
 Z2J n r t m s (i:Int) (pre ++ List.replicate (r.Contacts.length - i) 0) = Z4x n r t (pre ++ Z1j (r.Contacts.drop i) s)
 | 0,i,s,pre,h,hm,_,_,_=>absurd hm (Nat.not_lt_zero _)
 | m + 1,i,s,pre,h,hm,hp,h0,h1=>by
   rw [Z2J]
   by_cases hi:i < r.Contacts.length
   ·obtain ⟨x,hx⟩:=Z8 hi
    obtain ⟨q,hq⟩:∃ q,r.Contacts.length - i = q + 1:=⟨r.Contacts.length - i - 1,by omega⟩
    have hq':r.Contacts.length - (i + 1) = q:=by omega
    rw [if_pos (by simpa using hi),Z2,hx,Option.bind_some,Z78,Option.bind_some,Z9 hx,Z1j,hq,List.replicate_succ]
    have hat:atI (pre ++ 0 :: List.replicate q (0:Int)) (i:Int) = some 0:=by
     rw [Z2,List.getElem?_append_right (by omega),hp]; simp
    have hset:(pre ++ 0 :: List.replicate q (0:Int)).set i s = (pre ++ [s]) ++ List.replicate q 0:=by
     rw [List.set_append_right _ _ (by omega),hp]; simp
    cases hse:seesS x with
    | true =>
      have:=Zaf n r t hs m (i + 1) (s + 1) (pre ++ [s]) (by omega) (by omega) (by simp [hp]) (by omega) (by omega)
      rw [hq'] at this
      rw [if_pos rfl,if_pos rfl,hat,Option.bind_some,Int.toNat_natCast,hset,Option.bind_some,wrapN (by omega),wrapI (by omega) (by omega),this]
      simp
    | false =>
      have:=Zaf n r t hs m (i + 1) s (pre ++ [0]) (by omega) (by omega) (by simp [hp]) h0 (by omega)
      rw [hq'] at this
      rw [if_neg (by simp),if_neg (by simp),wrapN (by omega)]
      rw [show pre ++ 0 :: List.replicate q (0:Int) = (pre ++ [0]) ++ List.replicate q 0 by simp,this]
      simp
   ·have:r.Contacts.length - i = 0:=by omega
    rw [if_neg (by simpa using hi),List.drop_eq_nil_of_le (by omega),Z1j,this]; rfl
def badK (c:ApiContact):Bool:=decide (c.Kind < 0) || decide (c.Kind >= 4)
theorem Zc7 (n:Nat) (c:ApiContact):Z4W n c = some (badK c):=by
 rw [Z4W,badK]
 by_cases h:c.Kind < 0 <;> simp [h]
theorem Zg7 (n:Nat) (s:List ApiContact) (hs:s.length <= 1000000000):∀ (k i:Nat),i <= s.length -> s.length - i < k ->
 ∃ r,ZG n s k (i:Int) = some r /\ decide (r >= 0) = (s.drop i).any badK
 | 0,i,h,hk=>absurd hk (Nat.not_lt_zero _)
 | k + 1,i,h,hk=>by
   rw [ZG]
   by_cases hi:i < s.length
   ·obtain ⟨x,hx⟩:=Z8 hi
    rw [if_pos (by simpa using hi),Z2,hx,Option.bind_some,Zc7,Option.bind_some,Z9 hx,List.any_cons]
    cases hc:badK x with
    | true=>exact ⟨(i:Int),by simp,by simp⟩
    | false =>
      rw [wrapN (by omega)]
      obtain ⟨r,h1,h2⟩:=Zg7 n s hs k (i + 1) (by omega) (by omega)
      exact ⟨r,by simpa using h1,by simpa using h2⟩
   ·rw [if_neg (by simpa using hi)]
    refine ⟨-1,rfl,?_⟩
    rw [List.drop_eq_nil_of_le (by omega)]; rfl
theorem Zla (n:Nat) (s:List ApiContact) (hs:s.length <= 1000000000) (h:s.length < n):ZZ n s = some (s.any badK):=by
 obtain ⟨r,h1,h2⟩:=Zg7 n s hs n 0 (by omega) (by omega)
 simp only [ZZ,Z1J]
 rw [show (0:Int) = ((0:Nat):Int) from rfl,h1,Option.bind_some]
 rw [List.drop_zero] at h2
 exact congrArg some h2
def treeS (r:ApiRung) (t:TreeTree) (slot:Int):List ApiIns × Int :=
 if checkS t r.Contacts.length ≠ 0 then ([],checkS t r.Contacts.length) else if r.Contacts.any badK then ([],8) else if slot < 0 \/ slot > 16384 then ([],3) else (layS r.Contacts (Z1j r.Contacts slot) t,0)
theorem Ze3 (n:Nat) (r:ApiRung) (t:TreeTree) (slot:Int) (hb:szT t <= 300000000) (hn:szT t < n) (hl:r.Contacts.length <= 1000000) (hln:r.Contacts.length < n):Z5W n r t slot = some (treeS r t slot):=by
 rw [Z5W,treeS,Zas t _ n (by omega) hn,Option.bind_some]
 by_cases hc:checkS t r.Contacts.length = 0
 ·rw [if_neg (show ¬ (checkS t r.Contacts.length != 0) = true by simp [hc]),if_neg (show ¬ (checkS t r.Contacts.length ≠ 0) by simp [hc]),Zla n _ (by omega) hln,Option.bind_some]
  cases hbad:r.Contacts.any badK with
  | true=>simp
  | false =>
    rw [if_neg (show ¬ false = true by simp),if_neg (show ¬ false = true by simp)]
    by_cases h0:slot < 0
    ·simp [h0]
    by_cases h1:slot > 16384
    ·simp [h0,h1]
    rw [if_neg (show ¬ (decide (slot < 0)) = true by simpa using h0),if_neg (show ¬ (decide (slot > 16384)) = true by simpa using h1),if_neg (show ¬ (slot < 0 \/ slot > 16384) by omega),if_pos (by omega),Option.bind_some]
    have:=Zaf n r t hl n 0 slot [] (by omega) (by omega) rfl (by omega) (by omega)
    rw [List.nil_append,List.nil_append,Nat.sub_zero,List.drop_zero,show ((0:Nat):Int) = 0 from rfl] at this
    rw [this,Z4x]
    obtain ⟨g1,_,_⟩:=(Z9W t r.Contacts.length).1 hc
    have hk:KindsOk r.Contacts:=fun c hc=>by
     have:=List.any_eq_false.1 hbad c hc
     simp only [badK,Bool.or_eq_true,decide_eq_true_eq,not_or] at this
     omega
    rw [ZkZ hk (Zdw _ _) _ _ _ t n [] g1 (by omega) (by simp; omega) hn,Option.bind_some,List.nil_append]
 ·simp [hc]
end Go.G

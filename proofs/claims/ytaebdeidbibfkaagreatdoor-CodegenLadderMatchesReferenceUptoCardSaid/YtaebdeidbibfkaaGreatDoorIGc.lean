/- Trees: their check. No law is proved here. -/
import Derived.Test.YtaebdeidbibfkaaGreatDoorILawM10
set_option linter.unusedSimpArgs false
set_option linter.unusedVariables false
set_option linter.unusedSectionVars false
namespace Go.G
open Go.Av
mutual
def chk (many:Int):TreeTree -> List Int -> Int × List Int
 | .mk K N ks,l =>
  if K < 0 \/ K > 2 then (8,l)
  else if K = 0 then (if 0 < ks.length then (2,l) else if N < 0 \/ N >= many then (3,l) else if N ∈ l then (9,l) else (0,l ++ [N]))
  else if N ≠ 0 then (2,l)
  else if ks.length < 2 then (5,l)
  else if ks.any (fun k=>k.Kind == K) = true then (14,l)
  else chks many ks l
def chks (many:Int):List TreeTree -> List Int -> Int × List Int
 | [],l=>(0,l)
 | k :: ks,l=>if (chk many k l).1 ≠ 0 then chk many k l else chks many ks (chk many k l).2
end
def mp (l:List Int):List (Int × Bool):=l.map fun x=>(x,true)
theorem Zl8 (l:List Int) (x:Int):(mGet (mp l) x).getD false = decide (x ∈ l):=by
 induction l with
 | nil=>simp [mp,mGet]
 | cons a l ih =>
   simp only [mp,List.map_cons,mGet] at ih ⊢
   by_cases h:x = a
   ·simp [h]
   ·have:(x == a) = false:=by simpa using h
    simp [this,ih,h]
theorem Zlg (l:List Int) (x:Int) (h:x ∉ l):mPut (mp l) x true = mp (l ++ [x]):=by
 induction l with
 | nil=>rfl
 | cons a l ih =>
   simp only [List.mem_cons,not_or] at h
   have h1:(x == a) = false:=by simpa using h.1
   have:=ih h.2
   simp only [mp,List.map_cons,List.cons_append,mPut,h1,Bool.false_eq_true,if_false] at this ⊢
   rw [this]
theorem Zlc (l:List Int):(mp l).length = l.length:=by simp [mp]
theorem ZfJ (n:Nat) (s:List TreeTree) (b:TreeTree) (hs:s.length <= 1000000000):∀ (k i:Nat),i <= s.length -> s.length - i < k ->
 ∃ r,ZQ n s b k (i:Int) = some r /\ decide (r >= 0) = (s.drop i).any fun x=>x.Kind == b.Kind
 | 0,i,h,hk=>absurd hk (Nat.not_lt_zero _)
 | k + 1,i,h,hk=>by
   rw [ZQ]
   by_cases hi:i < s.length
   ·obtain ⟨x,hx⟩:=Z8 hi
    rw [if_pos (by simpa using hi),Z2,hx,Option.bind_some]
    simp only [Z4N,Option.bind_some]
    rw [Z9 hx,List.any_cons]
    cases hc:(x.Kind == b.Kind) with
    | true=>exact ⟨(i:Int),by simp,by simp⟩
    | false =>
      rw [wrapN (by omega)]
      obtain ⟨r,h1,h2⟩:=ZfJ n s b hs k (i + 1) (by omega) (by omega)
      exact ⟨r,by simpa using h1,by simpa using h2⟩
   ·rw [if_neg (by simpa using hi)]
    refine ⟨-1,rfl,?_⟩
    rw [List.drop_eq_nil_of_le (by omega)]; rfl
theorem Zl6 (n:Nat) (s:List TreeTree) (b:TreeTree) (hs:s.length <= 1000000000) (h:s.length < n):ZM n s b = some (s.any fun x=>x.Kind == b.Kind):=by
 obtain ⟨r,h1,h2⟩:=ZfJ n s b hs n 0 (by omega) (by omega)
 simp only [ZM,Z1Y]
 rw [show (0:Int) = ((0:Nat):Int) from rfl,h1,Option.bind_some]
 rw [List.drop_zero] at h2
 exact congrArg some h2
theorem Zdu (t:TreeTree) (many:Int) (slf:TreeTree -> Int -> List (Int × Bool) -> Option (Int × List (Int × Bool))) (hs:t.Kids.length <= 1000000000)
 (hf:∀ k ∈ t.Kids,∀ l,slf k many (mp l) = some ((chk many k l).1,mp (chk many k l).2)):∀ (k i:Nat) (l:List Int),i <= t.Kids.length -> t.Kids.length - i < k ->
 Z2E t many slf k (mp l) (i:Int) = some ((chks many (t.Kids.drop i) l).1,mp (chks many (t.Kids.drop i) l).2)
 | 0,i,l,h,hk=>absurd hk (Nat.not_lt_zero _)
 | k + 1,i,l,h,hk=>by
   rw [Z2E]
   by_cases hi:i < t.Kids.length
   ·obtain ⟨x,hx⟩:=Z8 hi
    rw [if_pos (by simpa using hi),Z2,hx,Option.bind_some,hf x (List.mem_of_getElem? hx) l,Option.bind_some,Z9 hx,chks]
    by_cases he:(chk many x l).1 = 0
    ·have:=Zdu t many slf hs hf k (i + 1) (chk many x l).2 (by omega) (by omega)
     simp only [he,bne_self_eq_false,Bool.false_eq_true,if_false,ne_eq,not_true]
     rw [wrapN (by omega),this]
    ·simp [he]
   ·rw [if_neg (by simpa using hi),List.drop_eq_nil_of_le (by omega),chks]
theorem ZbE (many:Int):∀ (t:TreeTree) (n:Nat) (l:List Int),szT t <= 1000000000 -> szT t < n -> Z1p n t many (mp l) = some ((chk many t l).1,mp (chk many t l).2):=by
 intro t
 induction t using Z25 with
 | h K N ks ih =>
   intro n l hb hn
   obtain ⟨m,rfl,hlen,hk⟩:=Z5i hn
   have hl:ks.length <= 1000000000:=by have:=Z36 ks; simp only [szT] at hb; omega
   have hkb:∀ k ∈ ks,szT k <= 1000000000:=fun k hk=>by have:=Z3J hk; simp only [szT] at hb; omega
   have hloop:=Zdu (.mk K N ks) many (Z1p m) hl (fun k hk' l=>ih k hk' m l (hkb k hk') (hk k hk')) m 0 l (by omega) (by simpa [Z1] using hlen)
   rw [Z1p,chk]
   simp only [Zi,Z1v,Z1,Zl8,Zl6 m ks _ hl hlen,Option.bind_some,Z3A] at hloop ⊢
   rw [show ((0:Nat):Int) = 0 from rfl,List.drop_zero] at hloop
   rw [hloop]
   by_cases h0:K < 0
   ·simp [h0]
   by_cases h2:K > 2
   ·simp [h0,h2]
   by_cases hK:K = 0
   ·subst hK
    by_cases hz:0 < ks.length
    ·simp [hz]
    by_cases hN:N < 0
    ·simp [hz,hN]
    by_cases hM:N >= many
    ·simp [hz,hN,hM]
    by_cases hin:N ∈ l
    ·simp [hz,hN,hM,hin]
    ·simp [hz,hN,hM,hin,Zlg l N hin]
   by_cases hN:N = 0
   ·by_cases hz:ks.length < 2
    ·have:(ks.length:Int) < 2:=by omega
     simp [h0,h2,hK,hN,hz,this]
    ·have:¬ (ks.length:Int) < 2:=by omega
     generalize ks.any (fun x=>x.Kind == K) = b
     cases b <;> simp [h0,h2,hK,hN,hz,this]
   ·simp [h0,h2,hK,hN]
def checkS (t:TreeTree) (many:Int):Int :=
 if (chk many t []).1 ≠ 0 then (chk many t []).1 else if ((chk many t []).2.length:Int) ≠ imax 0 many then 4 else 0
theorem Zas (t:TreeTree) (many:Int) (n:Nat) (hb:szT t <= 1000000000) (hn:szT t < n):Z68 n t many = some (checkS t many):=by
 rw [Z68]
 have:=ZbE many t n [] hb hn
 rw [show mp [] = [] from rfl] at this
 rw [this,Option.bind_some,checkS]
 simp only [Zlc]
 by_cases he:(chk many t []).1 = 0
 ·by_cases hl:((chk many t []).2.length:Int) = imax 0 many <;> simp [he,hl]
 ·simp [he]
theorem Zkv (many:Int):∀ (t:TreeTree) (l:List Int),((chk many t l).1 = 0 ↔ Ok many t /\ (lv t).Nodup /\ ∀ x ∈ lv t,x ∉ l) /\ ((chk many t l).1 = 0 -> (chk many t l).2 = l ++ lv t):=by
 intro t
 induction t using Z25 with
 | h K N ks ih =>
   have hs:∀ (js:List TreeTree),(∀ k ∈ js,∀ l,((chk many k l).1 = 0 ↔ Ok many k /\ (lv k).Nodup /\ ∀ x ∈ lv k,x ∉ l) /\ ((chk many k l).1 = 0 -> (chk many k l).2 = l ++ lv k)) ->
    ∀ l,((chks many js l).1 = 0 ↔ OkL many js /\ (lvs js).Nodup /\ ∀ x ∈ lvs js,x ∉ l) /\ ((chks many js l).1 = 0 -> (chks many js l).2 = l ++ lvs js):=by
    intro js
    induction js with
    | nil=>intro _ l; simp [chks,OkL,lvs]
    | cons k js ihj =>
      intro h l
      obtain ⟨h1,h2⟩:=h k (by simp) l
      rw [chks]
      by_cases he:(chk many k l).1 = 0
      ·have e2:=h2 he
       obtain ⟨g1,g2,g3⟩:=h1.1 he
       obtain ⟨i1,i2⟩:=ihj (fun k hk=>h k (by simp [hk])) (l ++ lv k)
       rw [if_neg (by simpa using he),e2]
       refine ⟨?_,fun hz=>by rw [i2 hz,lvs,List.append_assoc]⟩
       rw [i1,OkL,lvs,List.nodup_append]
       constructor
       ·rintro ⟨a1,a2,a3⟩
        refine ⟨⟨g1,a1⟩,⟨g2,a2,fun a ha b hb e=>?_⟩,fun x hx=>?_⟩
        ·subst e; exact a3 a hb (by simp [ha])
        ·rcases List.mem_append.1 hx with hx | hx
         ·exact g3 x hx
         ·intro hl; exact a3 x hx (by simp [hl])
       ·rintro ⟨⟨_,a1⟩,⟨_,a2,a3⟩,a4⟩
        refine ⟨a1,a2,fun x hx hm=>?_⟩
        rcases List.mem_append.1 hm with hm | hm
        ·exact a4 x (by simp [hx]) hm
        ·exact a3 x hm x hx rfl
      ·rw [if_pos he]
       refine ⟨⟨fun hz=>absurd hz he,fun ⟨a1,a2,a3⟩=>?_⟩,fun hz=>absurd hz he⟩
       exfalso
       rw [OkL] at a1
       rw [lvs,List.nodup_append] at a2
       rw [lvs] at a3
       exact he (h1.2 ⟨a1.1,a2.1,fun x hx=>a3 x (by simp [hx])⟩)
   intro l
   obtain ⟨s1,s2⟩:=hs ks ih l
   rw [chk,Ok,lv]
   by_cases h0:K < 0 \/ K > 2
   ·rw [if_pos h0]
    refine ⟨⟨fun hz=>by simp at hz,fun ⟨h,_⟩=>?_⟩,fun hz=>by simp at hz⟩
    rcases h with ⟨h,_⟩ | ⟨h,_⟩ <;> omega
   rw [if_neg h0]
   by_cases hK:K = 0
   ·subst hK
    simp only [if_true]
    by_cases hz:0 < ks.length
    ·rw [if_pos hz]
     refine ⟨⟨fun hz=>by simp at hz,fun ⟨h,_⟩=>?_⟩,fun hz=>by simp at hz⟩
     rcases h with ⟨_,h,_⟩ | ⟨h,_⟩
     ·subst h; simp at hz
     ·omega
    rw [if_neg hz]
    have hnil:ks = []:=List.length_eq_zero_iff.1 (by omega)
    by_cases hN:N < 0 \/ N >= many
    ·rw [if_pos hN]
     refine ⟨⟨fun hz=>by simp at hz,fun ⟨h,_⟩=>?_⟩,fun hz=>by simp at hz⟩
     rcases h with ⟨_,_,h⟩ | ⟨h,_⟩ <;> omega
    rw [if_neg hN]
    by_cases hin:N ∈ l
    ·rw [if_pos hin]
     refine ⟨⟨fun hz=>by simp at hz,fun ⟨_,_,h⟩=>?_⟩,fun hz=>by simp at hz⟩
     exact absurd hin (h N (by simp))
    ·rw [if_neg hin]
     refine ⟨⟨fun _=>⟨.inl ⟨trivial,hnil,by omega,by omega⟩,by simp,by simpa using hin⟩,fun _=>rfl⟩,fun _=>rfl⟩
   ·have h12:K = 1 \/ K = 2:=by omega
    rw [if_neg hK,if_neg hK,if_pos h12]
    by_cases hN:N = 0
    ·rw [if_neg (by simpa using hN)]
     by_cases hl:ks.length < 2
     ·rw [if_pos hl]
      refine ⟨⟨fun hz=>by simp at hz,fun ⟨h,_⟩=>?_⟩,fun hz=>by simp at hz⟩
      rcases h with ⟨h,_⟩ | ⟨_,_,h,_⟩ <;> omega
     rw [if_neg hl]
     by_cases ha:ks.any (fun k=>k.Kind == K) = true
     ·rw [if_pos ha]
      refine ⟨⟨fun hz=>by simp at hz,fun ⟨h,_⟩=>?_⟩,fun hz=>by simp at hz⟩
      obtain ⟨k,hk,he⟩:=List.any_eq_true.1 ha
      rcases h with ⟨h,_⟩ | ⟨_,_,_,h,_⟩
      ·exact absurd h hK
      ·exact absurd (by simpa using he) (h k hk)
     ·rw [if_neg ha,s1]
      refine ⟨⟨fun ⟨a1,a2,a3⟩=>⟨.inr ⟨h12,hN,by omega,fun k hk e=>ha (List.any_eq_true.2 ⟨k,hk,by simpa using e⟩),a1⟩,a2,a3⟩,fun ⟨h,a2,a3⟩=>⟨?_,a2,a3⟩⟩,fun hz=>s2 (s1.2 hz)⟩
      rcases h with ⟨h,_⟩ | ⟨_,_,_,_,h⟩
      ·exact absurd h hK
      ·exact h
    ·rw [if_pos (by simpa using hN)]
     refine ⟨⟨fun hz=>by simp at hz,fun ⟨h,_⟩=>?_⟩,fun hz=>by simp at hz⟩
     rcases h with ⟨h,_⟩ | ⟨_,h,_⟩
     ·exact absurd h hK
     ·exact absurd h hN
theorem Z9W (t:TreeTree) (len:Nat):checkS t (len:Int) = 0 ↔ Ok len t /\ (lv t).Nodup /\ (lv t).length = len:=by
 obtain ⟨h1,h2⟩:=Zkv (len:Int) t []
 have hm:imax 0 (len:Int) = len:=by unfold imax; split <;> omega
 rw [checkS,hm]
 by_cases he:(chk len t []).1 = 0
 ·have e2:=h2 he
  obtain ⟨g1,g2,g3⟩:=h1.1 he
  rw [if_neg (by simpa using he),e2]
  simp only [List.nil_append]
  by_cases hl:((lv t).length:Int) = len
  ·rw [if_neg (by simpa using hl)]
   simp only [true_iff]
   exact ⟨g1,g2,by omega⟩
  ·rw [if_pos hl]
   refine ⟨fun hz=>by simp at hz,fun ⟨_,_,h⟩=>absurd (by omega) hl⟩
 ·rw [if_pos he]
  refine ⟨fun hz=>absurd hz he,fun ⟨a1,a2,_⟩=>absurd (h1.2 ⟨a1,a2,by simp⟩) he⟩
end Go.G

/- Depths of trees. No law is proved here. -/
import Derived.Test.YtaebdeidbibfkaaGreatDoorIGc
import Derived.Test.YtaebdeidbibfkaaGreatDoorILawM12
set_option linter.unusedSimpArgs false
set_option linter.unusedVariables false
set_option linter.unusedSectionVars false
namespace Go.G
open Go.Av
def getB (l:List Bool) (i:Int):Bool:=(l[i.toNat]?).getD false
mutual
def dp (ed:List Bool):TreeTree -> Nat
 | .mk _ _ ks=>dpL ed ks
def dpL (ed:List Bool):List TreeTree -> Nat
 | []=>0
 | k :: ks=>dps ed ks (dp ed k)
def dps (ed:List Bool):List TreeTree -> Nat -> Nat
 | [],d=>d
 | k :: ks,d=>dps ed ks (if k.Kind ≠ 0 \/ getB ed k.N = true then max d (1 + dp ed k) else d)
end
theorem ZjJ (ed:List Bool):∀ (ks:List TreeTree),(∀ k ∈ ks,dp ed k < szT k) -> ∀ d,dps ed ks d <= max d (szL ks)
 | [],_,d=>by rw [dps]; omega
 | k :: ks,h,d=>by
   have h1:=h k (by simp)
   have h2:=ZjJ ed ks (fun k hk=>h k (by simp [hk]))
   rw [dps,szL]
   split
   ·have:=h2 (max d (1 + dp ed k)); omega
   ·have:=h2 d; omega
theorem dp_lt (ed:List Bool):∀ t,dp ed t < szT t:=by
 intro t
 induction t using Z25 with
 | h K N ks ih =>
   rw [dp,szT]
   cases ks with
   | nil=>rw [dpL]; omega
   | cons k ks =>
     have h1:=ih k (by simp)
     have h2:=ZjJ ed ks (fun k hk=>ih k (by simp [hk])) (dp ed k)
     rw [dpL,szL]; omega
theorem Zgk (a b:Nat):imax (a:Int) (b:Int) = ((max a b:Nat):Int):=by unfold imax; split <;> omega
theorem ZhK {len:Nat} {ed:List Bool} (h:ed.length = len) {k:TreeTree} (hk:Ok len k) (h0:k.Kind = 0):atI ed k.N = some (getB ed k.N) /\ k.Kids = []:=by
 obtain ⟨K,N,ks⟩:=k
 rw [Ok] at hk
 rw [Zi] at h0
 rw [Z1v,Z1]
 rcases hk with ⟨_,h1,h2,h3⟩ | ⟨h,_⟩
 ·have:N.toNat < ed.length:=by omega
  exact ⟨by simp [atI,h2,getB,List.getElem?_eq_getElem this],h1⟩
 ·omega
theorem ZdK (t:TreeTree) (ed:List Bool) (slf:TreeTree -> List Bool -> Option Int) (hs:t.Kids.length <= 1000000000) (hf:∀ k ∈ t.Kids,slf k ed = some (dp ed k:Int)) (hok:∀ k ∈ t.Kids,Ok ed.length k) (hsz:∀ k ∈ t.Kids,szT k <= 1000000000):∀ (k i d:Nat),1 <= i -> i <= t.Kids.length -> t.Kids.length - i < k ->
 Z19 t ed slf k (i:Int) (d:Int) = some (dps ed (t.Kids.drop i) d:Int)
 | 0,i,d,h1,h,hk=>absurd hk (Nat.not_lt_zero _)
 | k + 1,i,d,h1,h,hk=>by
   rw [Z19]
   by_cases hi:i < t.Kids.length
   ·obtain ⟨x,hx⟩:=Z8 hi
    have hm:=List.mem_of_getElem? hx
    have h0:((i:Int) == 0) = false:=by simp; omega
    have hlt:=dp_lt ed x
    have hxs:=hsz x hm
    have hw:IntKind.i64.wrap (1 + (dp ed x:Int)) = ((1 + dp ed x:Nat):Int):=by rw [wrapI (by omega) (by omega)]; omega
    rw [if_pos (by simpa using hi),Z2,hx,Option.bind_some,h0,if_neg (by simp),hf x hm,Z9 hx,dps]
    have ih:=ZdK t ed slf hs hf hok hsz k (i + 1)
    by_cases hK:x.Kind = 0
    ·obtain ⟨g1,_⟩:=ZhK rfl (hok x hm) hK
     simp only [hK,bne_self_eq_false,Bool.false_eq_true,if_false,g1,Option.bind_some,ne_eq,not_true,false_or]
     cases hb:getB ed x.N with
     | true=>rw [if_pos rfl,if_pos rfl,hw,Zgk,wrapN (by omega)]; exact ih _ (by omega) (by omega) (by omega)
     | false=>rw [if_neg (by simp),if_neg (by simp),wrapN (by omega)]; exact ih _ (by omega) (by omega) (by omega)
    ·have:(x.Kind != 0) = true:=by simpa using hK
     rw [if_pos this,Option.bind_some,hw,Zgk,wrapN (by omega),if_pos (.inl hK)]
     exact ih _ (by omega) (by omega) (by omega)
   ·rw [if_neg (by simpa using hi),List.drop_eq_nil_of_le (by omega),dps]
theorem Zb0 (ed:List Bool):∀ (t:TreeTree) (n:Nat),Ok ed.length t -> szT t <= 1000000000 -> szT t < n -> Z1A n t ed = some (dp ed t:Int):=by
 intro t
 induction t using Z25 with
 | h K N ks ih =>
   intro n hok hb hn
   obtain ⟨m,rfl,hlen,hk⟩:=Z5i hn
   have hl:ks.length <= 1000000000:=by have:=Z36 ks; simp only [szT] at hb; omega
   have hkb:∀ k ∈ ks,szT k <= 1000000000:=fun k hk=>by have:=Z3J hk; simp only [szT] at hb; omega
   rw [Z1A,dp]
   have hoks:∀ k ∈ ks,Ok ed.length k:=by
    rw [Ok] at hok
    rcases hok with ⟨_,rfl,_⟩ | ⟨_,_,_,_,h⟩
    ·simp
    ·exact OkL_iff.1 h
   have hf:∀ k ∈ ks,Z1A m k ed = some (dp ed k:Int):=fun k hk'=>ih k hk' m (hoks k hk') (hkb k hk') (hk k hk')
   obtain ⟨j,rfl⟩:∃ j,m = j + 1:=⟨m - 1,by omega⟩
   rw [Z19]
   cases ks with
   | nil=>simp [Z1,dpL]
   | cons k ks =>
     have hloop:=ZdK (.mk K N (k :: ks)) ed (Z1A (j + 1)) (by simpa [Z1] using hl) (by simpa [Z1] using hf) (by simpa [Z1] using hoks) (by simpa [Z1] using hkb) j 1 (dp ed k) (by omega) (by simp [Z1]) (by simp only [Z1]; simp only [List.length_cons] at hlen ⊢; omega)
     rw [Z1,if_pos (by simp),show atI (k :: ks) 0 = some k from rfl,Option.bind_some,if_pos (by simp),hf k (by simp),Option.bind_some]
     have hw:IntKind.i64.wrap ((0:Int) + 1) = ((1:Nat):Int):=wrapN (i:=0) (by omega)
     rw [hw,hloop,Z1,dpL]; rfl
theorem Z9y (t:TreeTree) (ed:List Bool) (slf:Ref14Tree -> List Bool -> Option Int) (hs:t.Kids.length <= 1000000000) (hf:∀ k ∈ t.Kids,slf (ofT k) ed = some (dp ed k:Int)) (hok:∀ k ∈ t.Kids,Ok ed.length k) (hsz:∀ k ∈ t.Kids,szT k <= 1000000000):∀ (k i d:Nat),i <= t.Kids.length -> t.Kids.length - i < k ->
 Z13 (ofT t) ed slf k (i:Int) (d:Int) = some (dps ed (t.Kids.drop i) d:Int)
 | 0,i,d,h,hk=>absurd hk (Nat.not_lt_zero _)
 | k + 1,i,d,h,hk=>by
   rw [Z13,Z5V]
   by_cases hi:i < t.Kids.length
   ·obtain ⟨x,hx⟩:=Z8 hi
    have hm:=List.mem_of_getElem? hx
    have hlt:=dp_lt ed x
    have hxs:=hsz x hm
    have hw:IntKind.i64.wrap (1 + (dp ed x:Int)) = ((1 + dp ed x:Nat):Int):=by rw [wrapI (by omega) (by omega)]; omega
    have ih:=Z9y t ed slf hs hf hok hsz k (i + 1)
    have hJ:Z2o ed (i:Int) (d:Int) (Z13 (ofT t) ed slf k) (ofT x) slf = some (dps ed (t.Kids.drop (i + 1)) (max d (1 + dp ed x)):Int):=by
     rw [Z2o,hf x hm,Option.bind_some,hw,wrapN (by omega)]
     by_cases hg:1 + dp ed x > d
     ·rw [if_pos (by simp; omega),show max d (1 + dp ed x) = 1 + dp ed x by omega]; exact ih _ (by omega) (by omega)
     ·rw [if_neg (by simp; omega),show max d (1 + dp ed x) = d by omega]; exact ih _ (by omega) (by omega)
    rw [if_pos (by simpa using hi),Z3j ofT _ _ hx,Option.bind_some,hJ,Z9 hx,dps,Z2g,ofT_N]
    by_cases hK:x.Kind = 0
    ·obtain ⟨g1,_⟩:=ZhK rfl (hok x hm) hK
     simp only [hK,beq_self_eq_true,if_true,g1,Option.bind_some,ne_eq,not_true,false_or]
     cases hb:getB ed x.N with
     | true=>rw [if_neg (by simp),if_pos rfl]
     | false=>rw [if_pos (by simp),if_neg (by simp),wrapN (by omega)]; exact ih _ (by omega) (by omega)
    ·have:(x.Kind == 0) = false:=by simpa using hK
     rw [this,if_neg (by simp),if_pos (.inl hK)]
   ·rw [if_neg (by simpa using hi),List.drop_eq_nil_of_le (by omega),dps]
theorem Zax (ed:List Bool):∀ (t:TreeTree) (n:Nat),Ok ed.length t -> szT t <= 1000000000 -> szT t < n -> ZS n (ofT t) ed = some (dp ed t:Int):=by
 intro t
 induction t using Z25 with
 | h K N ks ih =>
   intro n hok hb hn
   obtain ⟨m,rfl,hlen,hk⟩:=Z5i hn
   have hl:ks.length <= 1000000000:=by have:=Z36 ks; simp only [szT] at hb; omega
   have hkb:∀ k ∈ ks,szT k <= 1000000000:=fun k hk=>by have:=Z3J hk; simp only [szT] at hb; omega
   rw [ZS,dp,Z2g,Zi]
   rw [Ok] at hok
   rcases hok with ⟨rfl,rfl,h1,h2⟩ | ⟨h12,_,h2,_,hoks⟩
   ·simp [dpL]
   ·have hoks:=OkL_iff.1 hoks
    have hf:∀ k ∈ ks,ZS m (ofT k) ed = some (dp ed k:Int):=fun k hk'=>ih k hk' m (hoks k hk') (hkb k hk') (hk k hk')
    have hK:(K == 0) = false:=by simp; omega
    rw [hK,if_neg (by simp),Z5V,Z1]
    cases ks with
    | nil=>simp at h2
    | cons k ks =>
      have hloop:=Z9y (.mk K N (k :: ks)) ed (ZS m) (by simpa [Z1] using hl) (by simpa [Z1] using hf) (by simpa [Z1] using hoks) (by simpa [Z1] using hkb) m 1 (dp ed k) (by simp [Z1]) (by simp only [Z1]; simp only [List.length_cons] at hlen ⊢; omega)
      rw [show atI ((k :: ks).map ofT) 0 = some (ofT k) from rfl,Option.bind_some,hf k (by simp),Option.bind_some]
      rw [show (1:Int) = ((1:Nat):Int) from rfl,hloop,Z1,dpL]; rfl
theorem Zb1 (t:TreeTree) (ed:List Bool) (n:Nat) (hb:szT t <= 1000000000) (hn:szT t < n):Z4y n t ed = some (if checkS t ed.length = 0 then ((dp ed t:Int),0) else (0,checkS t ed.length)):=by
 rw [Z4y,Zas t _ n hb hn,Option.bind_some]
 by_cases hc:checkS t ed.length = 0
 ·rw [if_neg (by simp [hc]),Zb0 ed t n ((Z9W t ed.length).1 hc).1 hb hn,Option.bind_some,if_pos hc]
 ·rw [if_pos (by simpa using hc),if_neg hc]
end Go.G

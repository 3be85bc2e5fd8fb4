/- The reference's reduction of a rung. No law is proved here. -/
import Derived.Test.YtaebdeidbibfkaaGreatDoorILawM13
import Derived.Test.YtaebdeidbibfkaaGreatDoorILawM12
import Derived.Test.YtaebdeidbibfkaaGreatDoorIGwt
set_option linter.unusedSimpArgs false
set_option linter.unusedVariables false
set_option linter.unusedSectionVars false
namespace Go.G
open Go.Av
def ofE (e:ReduceEdge):Ref15Edge:=⟨e.pair.from_,e.pair.to_,ofT e.t_⟩
def wo {α:Type} (i k:Nat):Nat -> List α -> List α
 | _,[]=>[]
 | j,x :: l=>if j ≠ i /\ j ≠ k then x :: wo i k (j + 1) l else wo i k (j + 1) l
theorem ZfG {α:Type} (i k:Nat):∀ (l:List α) (j:Nat),(wo i k j l).length <= l.length
 | [],_=>by simp [wo]
 | x :: l,j=>by
   have:=ZfG i k l (j + 1)
   rw [wo]
   split
   ·simp; omega
   ·simp; omega
theorem ZjR {α β:Type} (f:α -> β) (i k:Nat):∀ (l:List α) (j:Nat),wo i k j (l.map f) = (wo i k j l).map f
 | [],_=>rfl
 | x :: l,j=>by
   rw [List.map_cons,wo,wo,ZjR f i k l (j + 1)]
   split
   ·rfl
   ·rfl
theorem ZhQ {α:Type} (i k:Nat):∀ (l:List α) (j:Nat),wo i k j l = wo k i j l
 | [],_=>rfl
 | x :: l,j=>by
   rw [wo,wo,ZhQ i k l (j + 1)]
   by_cases h1:j = i <;> by_cases h2:j = k <;> simp [h1,h2]
theorem ZhC {α:Type} (i k:Nat):∀ (l:List α) (j:Nat),i < j -> k < j -> wo i k j l = l
 | [],_,_,_=>rfl
 | x :: l,j,h1,h2=>by rw [wo,if_pos ⟨by omega,by omega⟩,ZhC i k l (j + 1) (by omega) (by omega)]
theorem ZfW {α:Type} (i k:Nat):∀ (l:List α) (j:Nat) (y:α),i < j -> j <= k -> l[k - j]? = some y -> l.Perm (y :: wo i k j l)
 | [],j,y,_,_,h=>by simp at h
 | x :: l,j,y,h1,h2,h=>by
   rw [wo]
   by_cases e:j = k
   ·subst e
    rw [Nat.sub_self,List.getElem?_cons_zero,Option.some.injEq] at h
    subst h
    rw [if_neg (by omega),ZhC i j l (j + 1) (by omega) (by omega)]
   ·rw [if_pos ⟨by omega,e⟩]
    have e2:k - j = (k - (j + 1)) + 1:=by omega
    rw [e2,List.getElem?_cons_succ] at h
    exact ((ZfW i k l (j + 1) y (by omega) (by omega) h).cons x).trans (List.Perm.swap _ _ _)
theorem Z9q {α:Type} (i k:Nat) (hik:i ≠ k):∀ (l:List α) (j:Nat) (x y:α),j <= i -> j <= k -> l[i - j]? = some x -> l[k - j]? = some y -> l.Perm (x :: y :: wo i k j l)
 | [],j,x,y,_,_,h,_=>by simp at h
 | z :: l,j,x,y,h1,h2,hx,hy=>by
   rw [wo]
   by_cases e1:j = i
   ·subst e1
    rw [Nat.sub_self,List.getElem?_cons_zero,Option.some.injEq] at hx
    subst hx
    have e2:k - j = (k - (j + 1)) + 1:=by omega
    rw [e2,List.getElem?_cons_succ] at hy
    rw [if_neg (by omega)]
    exact (ZfW j k l (j + 1) y (by omega) (by omega) hy).cons z
   ·by_cases e2:j = k
    ·subst e2
     rw [Nat.sub_self,List.getElem?_cons_zero,Option.some.injEq] at hy
     subst hy
     have e3:i - j = (i - (j + 1)) + 1:=by omega
     rw [e3,List.getElem?_cons_succ] at hx
     rw [if_neg (by omega),ZhQ]
     exact ((ZfW j i l (j + 1) x (by omega) (by omega) hx).cons z).trans (List.Perm.swap _ _ _)
    ·rw [if_pos ⟨e1,e2⟩]
     have e3:i - j = (i - (j + 1)) + 1:=by omega
     have e4:k - j = (k - (j + 1)) + 1:=by omega
     rw [e3,List.getElem?_cons_succ] at hx
     rw [e4,List.getElem?_cons_succ] at hy
     have:=(Z9q i k hik l (j + 1) x y (by omega) (by omega) hx hy).cons z
     refine this.trans ?_
     refine (List.Perm.swap _ _ _).trans ?_
     exact (List.Perm.swap _ _ _).cons x
theorem Z7m (l:List Ref15Edge) (i k:Nat) (hs:l.length <= 1000000):∀ (m j:Nat) (acc:List Ref15Edge),j <= l.length -> l.length - j < m -> acc.length <= j ->
 Z1u l (i:Int) (k:Int) m acc (j:Int) = some (acc ++ wo i k j (l.drop j))
 | 0,j,acc,h,hm,_=>absurd hm (Nat.not_lt_zero _)
 | m + 1,j,acc,h,hm,ha=>by
   rw [Z1u]
   by_cases hj:j < l.length
   ·obtain ⟨x,hx⟩:=Z8 hj
    rw [if_pos (by simpa using hj),wrapN (by omega),Z9 hx,wo]
    by_cases h1:j = i
    ·subst h1
     rw [if_neg (by simp),if_neg (by simp),Z7m l j k hs m (j + 1) acc (by omega) (by omega) (by omega)]
    ·rw [if_pos (by simp; omega)]
     by_cases h2:j = k
     ·subst h2
      rw [if_neg (by simp),if_neg (by simp),Z7m l i j hs m (j + 1) acc (by omega) (by omega) (by omega)]
     ·rw [if_pos (by simp; omega),Z2,hx,Option.bind_some,if_pos (by simp; omega),Option.bind_some,if_pos ⟨h1,h2⟩,Z7m l i k hs m (j + 1) _ (by omega) (by omega) (by simp; omega),List.append_assoc]
      rfl
   ·rw [if_neg (by simpa using hj),List.drop_eq_nil_of_le (by omega),wo,List.append_nil]
theorem Zeb (n:Nat) (l:List ReduceEdge) (i k:Nat) (hs:l.length <= 1000000) (hn:l.length < n):Z3h n (l.map ofE) (i:Int) (k:Int) = some ((wo i k 0 l).map ofE):=by
 rw [Z3h,show (0:Int) = ((0:Nat):Int) from rfl,Z7m _ i k (by simpa using hs) n 0 [] (by omega) (by simpa using hn) (by simp),List.drop_zero,List.nil_append,ZjR]
theorem ZbH (l:List ReduceEdge) (x:Str) (hs:l.length <= 1000000):∀ (m j a b:Nat),j <= l.length -> l.length - j < m -> a <= j -> b <= j ->
 Z2v (l.map ofE) x m (a:Int) (b:Int) (j:Int) = some (((a + (l.drop j).countP fun e=>decide (e.pair.to_ = x):Nat):Int),((b + (l.drop j).countP fun e=>decide (e.pair.from_ = x):Nat):Int))
 | 0,j,a,b,h,hm,_,_=>absurd hm (Nat.not_lt_zero _)
 | m + 1,j,a,b,h,hm,ha,hb=>by
   rw [Z2v,List.length_map]
   by_cases hj:j < l.length
   ·obtain ⟨e,he⟩:=Z8 hj
    rw [if_pos (by simpa using hj),Z3j ofE _ _ he,Option.bind_some,Z9 he,List.countP_cons,List.countP_cons]
    have key:∀ a':Nat,a' <= j + 1 -> Z4q (l.map ofE) x (b:Int) (j:Int) (Z2v (l.map ofE) x m) (a':Int) =
     some (((a' + (l.drop (j + 1)).countP fun e=>decide (e.pair.to_ = x):Nat):Int),((b + ((l.drop (j + 1)).countP (fun e=>decide (e.pair.from_ = x)) + if decide (e.pair.from_ = x) = true then 1 else 0):Nat):Int)):=fun a' ha'=>by
     rw [Z4q,Z3j ofE _ _ he,Option.bind_some,wrapN (by omega),wrapN (by omega)]
     show (if decide (e.pair.from_ = x) = true then _ else _) = _
     by_cases hf:e.pair.from_ = x
     ·rw [if_pos (by simpa using hf),if_pos (by simpa using hf),ZbH l x hs m (j + 1) a' (b + 1) (by omega) (by omega) (by omega) (by omega)]
      congr 3; omega
     ·rw [if_neg (by simpa using hf),if_neg (by simpa using hf),ZbH l x hs m (j + 1) a' b (by omega) (by omega) (by omega) (by omega)]
      simp
    show (if decide (e.pair.to_ = x) = true then _ else _) = _
    by_cases ht:e.pair.to_ = x
    ·rw [if_pos (by simpa using ht),if_pos (by simpa using ht),wrapN (by omega),key (a + 1) (by omega)]
     congr 3; omega
    ·rw [if_neg (by simpa using ht),if_neg (by simpa using ht),key a (by omega)]
     simp
   ·rw [if_neg (by simpa using hj),List.drop_eq_nil_of_le (by omega)]
    simp
theorem Zkt (n:Nat) (l:List ReduceEdge) (x:Str) (hs:l.length <= 1000000) (hn:l.length < n):Z6R n (l.map ofE) x = some (((l.countP fun e=>decide (e.pair.to_ = x):Nat):Int),((l.countP fun e=>decide (e.pair.from_ = x):Nat):Int)):=by
 rw [Z6R,show (0:Int) = ((0:Nat):Int) from rfl,ZbH l x hs n 0 0 0 (by omega) (by omega) (by omega) (by omega),List.drop_zero]
 simp
structure SInv (len:Nat) (rank:Str -> Nat) (l:List ReduceEdge):Prop where
 p:PInv (len:Int) rank l
 so:∀ e ∈ l,Z5 e.t_ = e.t_
 sz:(l.map fun e=>szT e.t_ + 1).sum <= 2 * len
theorem SInv.red {len:Nat} {rank:Str -> Nat} {l l':List ReduceEdge} (h:SInv len rank l) (k:RedP l l'):SInv len rank l':=by
 refine ⟨h.p.red k,fun e he=>?_,?_⟩
 ·obtain ⟨K,x,y,r,h1,h2,h3⟩:=k
  rcases List.mem_cons.1 (h3.subset he) with rfl | he
  ·obtain ⟨g1,g2,g3⟩:=(h.p.perm h1).two
   show Z5 (J K x.t_ y.t_) = J K x.t_ y.t_
   exact Z7E (ZdQ h2.K g1 g2 g3)
  ·exact h.so e (h1.symm.subset (by simp [he]))
 ·obtain ⟨K,x,y,r,p,c,e⟩:=k
  have hz:=h.sz
  rw [Z7y (e.map fun e:ReduceEdge=>szT e.t_ + 1)]
  rw [Z7y (p.map fun e:ReduceEdge=>szT e.t_ + 1)] at hz
  simp only [List.map_cons,List.sum_cons] at hz ⊢
  have:szT (joinE K x y).t_ <= szT x.t_ + szT y.t_ + 1:=by
   show szT (Z5 (joinT K x.t_ y.t_)) <= _
   rw [Zae]
   exact Zgx c.K _ _
  omega
theorem SInv.szT {len:Nat} {rank:Str -> Nat} {l:List ReduceEdge} (h:SInv len rank l) {e:ReduceEdge} (he:e ∈ l):szT e.t_ + 1 <= 2 * len :=
 Nat.le_trans (ZhG (List.mem_map.2 ⟨e,he,rfl⟩)) h.sz
theorem SInv.len {len:Nat} {rank:Str -> Nat} {l:List ReduceEdge} (h:SInv len rank l):l.length <= 2 * len:=Nat.le_trans (Zet l) h.sz
theorem ZhB (t:TreeTree):t.Kids.length <= szT t:=by
 obtain ⟨K,N,ks⟩:=t
 have:=Z36 ks
 rw [Z1,Go.G.szT]; omega
theorem Z9X {len:Int} {K:Int} (hK:K = 1 \/ K = 2) {a:TreeTree} (ha:Good len a) (hs:Z5 a = a):(joinK K a).map Z5 = joinK K a:=by
 have:∀ t ∈ joinK K a,Z5 t = t:=fun t ht=>by
  have p:=Z8u hK ha
  rw [hs] at p
  obtain ⟨u,hu,rfl⟩:=List.mem_map.1 (p.subset ht)
  exact Z7E ((Z7F hK ha).mem hu)
 calc (joinK K a).map Z5 = (joinK K a).map id:=List.map_congr_left this
  _ = joinK K a:=List.map_id _
theorem Zk0 (n:Nat) (hn:1000000 <= n) {len:Int} {K:Int} (hK:K = 1 \/ K = 2) {a b:TreeTree} (ha:Good len a) (hb:Good len b) (hd:(lv a ++ lv b).Nodup) (sa:Z5 a = a) (sb:Z5 b = b) (za:szT a <= 1000) (zb:szT b <= 1000) :
 Z3n n K (ofT a) (ofT b) = some (ofT (J K a b)):=by
 have ka:=ZhB a; have kb:=ZhB b
 rcases hK with rfl | rfl
 ·rw [Zjg n hn a b (by omega) (by omega),J1_eq,List.map_append,Z9X (.inl rfl) ha sa,Z9X (.inl rfl) hb sb]
 ·have hg:=Z4c (.inr rfl) ha hb hd
  have z1:=Zal (K:=2) (.inr rfl) a; have z2:=Zal (K:=2) (.inr rfl) b
  have l1:=Z36 (joinK 2 a); have l2:=Z36 (joinK 2 b)
  rw [Zjk n hn a b ⟨by rw [List.length_append]; omega,fun t ht=>?_⟩ (by omega) (by omega) hg.least,Z7a,List.map_append,Z9X (.inr rfl) ha sa,Z9X (.inr rfl) hb sb]
  have hz:szT t <= 1000:=by
   rcases List.mem_append.1 ht with h | h
   ·have:=Z3J h; omega
   ·have:=Z3J h; omega
  exact ⟨(Ok_lv (hg.ok t ht)).1,by omega,by omega⟩
section
variable (n:Nat) (hn:1000000 <= n) {len:Nat} (hl:len <= 400) {rank:Str -> Nat} {l:List ReduceEdge} (h:SInv len rank l)
def Hit (l:List ReduceEdge) (i k:Nat):Prop:=∃ x y,l[i]? = some x /\ l[k]? = some y /\ i ≠ k /\ ((i < k /\ y.pair = x.pair) \/ CondP 1 x y (wo i k 0 l))
theorem ZiX {i k:Nat} {x y:ReduceEdge} {K:Int} (hx:l[i]? = some x) (hy:l[k]? = some y) (hik:i ≠ k) (hc:CondP K x y (wo i k 0 l)):RedP l (wo i k 0 l ++ [joinE K x y]) :=
 ⟨K,x,y,wo i k 0 l,Z9q i k hik l 0 x y (Nat.zero_le _) (Nat.zero_le _) hx hy,hc,List.perm_append_comm⟩
include hn hl h in
theorem ZeL {i k:Nat} {x y:ReduceEdge} {K:Int} (hx:l[i]? = some x) (hy:l[k]? = some y) (hik:i ≠ k) (hK:K = 1 \/ K = 2):Z3n n K (ofT x.t_) (ofT y.t_) = some (ofT (J K x.t_ y.t_)):=by
 have mx:=List.mem_of_getElem? hx; have my:=List.mem_of_getElem? hy
 obtain ⟨g1,g2,g3⟩:=(h.p.perm (Z9q i k hik l 0 x y (Nat.zero_le _) (Nat.zero_le _) hx hy)).two
 have z1:=h.szT mx; have z2:=h.szT my
 exact Zk0 n hn hK g1 g2 g3 (h.so x mx) (h.so y my) (by omega) (by omega)
theorem Zd5 (e f:ReduceEdge):(e.pair = f.pair) ↔ (f.pair.from_ = e.pair.from_ /\ f.pair.to_ = e.pair.to_):=by
 obtain ⟨⟨a,b⟩,t⟩:=e; obtain ⟨⟨c,d⟩,u⟩:=f
 simp only [ReducePair.mk.injEq]
 exact ⟨fun ⟨q1,q2⟩=>⟨q1.symm,q2.symm⟩,fun ⟨q1,q2⟩=>⟨q1.symm,q2.symm⟩⟩
theorem Zbm {l:List ReduceEdge} {x y:ReduceEdge} {r:List ReduceEdge} (p:l.Perm (x :: y :: r)) (q:ReduceEdge -> Bool):l.countP q = (x :: y :: r).countP q:=p.countP_eq q
theorem ZkF {x y:ReduceEdge} {r:List ReduceEdge} (p:l.Perm (x :: y :: r)) (hxy:y.pair.from_ = x.pair.to_) :
 ((l.countP fun e=>decide (e.pair.to_ = x.pair.to_)) = 1 /\ (l.countP fun e=>decide (e.pair.from_ = x.pair.to_)) = 1) ↔ ((∀ e ∈ y :: r,e.pair.to_ ≠ x.pair.to_) /\ ∀ e ∈ x :: r,e.pair.from_ ≠ x.pair.to_):=by
 have e1:(l.countP fun e=>decide (e.pair.to_ = x.pair.to_)) = ((y :: r).countP fun e=>decide (e.pair.to_ = x.pair.to_)) + 1:=by
  rw [Zbm p,List.countP_cons,if_pos (by simp)]
 have e2:(l.countP fun e=>decide (e.pair.from_ = x.pair.to_)) = ((x :: r).countP fun e=>decide (e.pair.from_ = x.pair.to_)) + 1:=by
  rw [Zbm (p.trans (List.Perm.swap _ _ _)),List.countP_cons,if_pos (by simpa using hxy)]
 rw [e1,e2]
 have z:∀ (l:List ReduceEdge) (q:ReduceEdge -> Bool),l.countP q + 1 = 1 ↔ ∀ e ∈ l,¬ q e = true:=fun l q=>by
  rw [Nat.add_eq_right,List.countP_eq_zero]
 rw [z,z]
 simp only [decide_eq_true_eq]
include hn hl h in
theorem J3_eq (i k:Nat) (x y:ReduceEdge) (hx:l[i]? = some x) (hy:l[k]? = some y) (hnp:¬ (i < k /\ y.pair = x.pair)) (R:Int -> Option (List Ref15Edge × Bool)) :
 (∃ l',Z29 n (l.map ofE) (i:Int) (k:Int) R = some (l'.map ofE,true) /\ RedP l l') \/ (Z29 n (l.map ofE) (i:Int) (k:Int) R = R ((k + 1:Nat):Int) /\ ¬ Hit l i k):=by
 have hlen:=h.len
 have hkl:=Zd hy
 rw [Z29,wrapN (by omega)]
 have no:(∀ q:i ≠ k,¬ CondP 1 x y (wo i k 0 l)) -> ¬ Hit l i k:=fun hq ⟨x',y',q1,q2,q3,q4⟩=>by
  rw [hx] at q1; rw [hy] at q2; cases q1; cases q2
  rcases q4 with q4 | q4
  ·exact hnp q4
  ·exact hq q3 q4
 by_cases hik:i = k
 ·subst hik
  rw [if_pos (by simp)]
  exact .inr ⟨rfl,no fun q=>absurd rfl q⟩
 rw [if_neg (by simp; omega),Z3j ofE _ _ hx,Option.bind_some,Z3j ofE _ _ hy,Option.bind_some]
 have p:=Z9q i k hik l 0 x y (Nat.zero_le _) (Nat.zero_le _) hx hy
 show (∃ l',(if (!(decide (x.pair.to_ = y.pair.from_))) = true then _ else _) = _ /\ _) \/ ((if (!(decide (x.pair.to_ = y.pair.from_))) = true then _ else _) = _ /\ _)
 by_cases hxy:x.pair.to_ = y.pair.from_
 ·rw [if_neg (by simp [hxy])]
  show (∃ l',(if decide (x.pair.to_ = (⟨#[76]⟩:Str)) = true then _ else _) = _ /\ _) \/ ((if decide (x.pair.to_ = (⟨#[76]⟩:Str)) = true then _ else _) = _ /\ _)
  by_cases hL:x.pair.to_ = strLL
  ·rw [if_pos (by simp only [decide_eq_true_eq]; exact hL)]
   exact .inr ⟨rfl,no fun _ hc=>by
    rcases hc with ⟨hc,_⟩ | ⟨_,_,hc,_⟩
    ·omega
    ·exact hc hL⟩
  ·rw [if_neg (by simp only [decide_eq_true_eq]; exact hL)]
   show (∃ l',(if decide (x.pair.to_ = (⟨#[82]⟩:Str)) = true then _ else _) = _ /\ _) \/ ((if decide (x.pair.to_ = (⟨#[82]⟩:Str)) = true then _ else _) = _ /\ _)
   by_cases hR:x.pair.to_ = strRR
   ·rw [if_pos (by simp only [decide_eq_true_eq]; exact hR)]
    exact .inr ⟨rfl,no fun _ hc=>by
     rcases hc with ⟨hc,_⟩ | ⟨_,_,_,hc,_⟩
     ·omega
     ·exact hc hR⟩
   ·rw [if_neg (by simp only [decide_eq_true_eq]; exact hR),show (ofE x).To = x.pair.to_ from rfl,Zkt n l _ (by omega) (by omega),Option.bind_some]
    dsimp only
    have hiff:=ZkF p hxy.symm
    by_cases hm:(l.countP fun e=>decide (e.pair.to_ = x.pair.to_)) = 1 /\ (l.countP fun e=>decide (e.pair.from_ = x.pair.to_)) = 1
    ·have hc:CondP 1 x y (wo i k 0 l):=.inr ⟨rfl,hxy.symm,hL,hR,(hiff.1 hm).1,(hiff.1 hm).2⟩
     have hw:=ZfG i k l 0
     rw [if_pos (by simp [hm.1]),if_pos (by simp [hm.2]),Zeb n l i k (by omega) (by omega),Option.bind_some,show (ofE x).T = ofT x.t_ from rfl,show (ofE y).T = ofT y.t_ from rfl,ZeL n hn hl h hx hy hik (.inl rfl),Option.bind_some,if_pos (by simp; omega),Option.bind_some]
     exact .inl ⟨wo i k 0 l ++ [joinE 1 x y],by rw [List.map_append]; rfl,ZiX hx hy hik hc⟩
    ·have hno:¬ Hit l i k:=no fun _ hc=>by
      rcases hc with ⟨hc,_⟩ | ⟨_,_,_,_,c1,c2⟩
      ·omega
      ·exact hm (hiff.2 ⟨c1,c2⟩)
     by_cases h1:(l.countP fun e=>decide (e.pair.to_ = x.pair.to_)) = 1
     ·have h2:¬ (l.countP fun e=>decide (e.pair.from_ = x.pair.to_)) = 1:=fun q=>hm ⟨h1,q⟩
      rw [if_pos (by simp [h1]),if_neg (by simp only [beq_iff_eq]; omega)]
      exact .inr ⟨rfl,hno⟩
     ·rw [if_neg (by simp only [beq_iff_eq]; omega)]
      exact .inr ⟨rfl,hno⟩
 ·rw [if_pos (by simp [hxy])]
  exact .inr ⟨rfl,no fun _ hc=>by
   rcases hc with ⟨hc,_⟩ | ⟨_,hc,_⟩
   ·omega
   ·exact hxy hc.symm⟩
include hn hl h in
theorem L2_eq (i:Nat) (x:ReduceEdge) (hx:l[i]? = some x) (R:Int -> Option (List Ref15Edge × Bool)):∀ (m k:Nat),k <= l.length -> l.length - k < m ->
 (∃ l',Z1m n (l.map ofE) (i:Int) R m (k:Int) = some (l'.map ofE,true) /\ RedP l l') \/ (Z1m n (l.map ofE) (i:Int) R m (k:Int) = R ((i + 1:Nat):Int) /\ ∀ k',k <= k' -> ¬ Hit l i k')
 | 0,k,hk,hm=>absurd hm (Nat.not_lt_zero _)
 | m + 1,k,hk,hm=>by
   have hlen:=h.len
   have hil:=Zd hx
   rw [Z1m,List.length_map]
   by_cases hkl:k < l.length
   ·obtain ⟨y,hy⟩:=Z8 hkl
    rw [if_pos (by simpa using hkl)]
    have next:¬ (i < k /\ y.pair = x.pair) -> (∃ l',Z29 n (l.map ofE) (i:Int) (k:Int) (Z1m n (l.map ofE) (i:Int) R m) = some (l'.map ofE,true) /\ RedP l l') \/ (Z29 n (l.map ofE) (i:Int) (k:Int) (Z1m n (l.map ofE) (i:Int) R m) = R ((i + 1:Nat):Int) /\ ∀ k',k <= k' -> ¬ Hit l i k'):=fun hnp=>by
     rcases J3_eq n hn hl h i k x y hx hy hnp (Z1m n (l.map ofE) (i:Int) R m) with q | ⟨q,hno⟩
     ·exact .inl q
     ·rw [q]
      rcases L2_eq i x hx R m (k + 1) (by omega) (by omega) with q | ⟨q,hq⟩
      ·exact .inl q
      ·refine .inr ⟨q,fun k' hk'=>?_⟩
       rcases Nat.eq_or_lt_of_le hk' with e | e
       ·subst e; exact hno
       ·exact hq k' e
    by_cases hik:i < k
    ·rw [if_pos (by simp; omega),Z3j ofE _ _ hx,Option.bind_some,Z3j ofE _ _ hy,Option.bind_some]
     show (∃ l',(if decide (x.pair.from_ = y.pair.from_) = true then _ else _) = _ /\ _) \/ ((if decide (x.pair.from_ = y.pair.from_) = true then _ else _) = _ /\ _)
     by_cases hf:x.pair.from_ = y.pair.from_
     ·rw [if_pos (by simpa using hf)]
      show (∃ l',(if decide (x.pair.to_ = y.pair.to_) = true then _ else _) = _ /\ _) \/ ((if decide (x.pair.to_ = y.pair.to_) = true then _ else _) = _ /\ _)
      by_cases ht:x.pair.to_ = y.pair.to_
      ·have hp:y.pair = x.pair:=(Zd5 y x).2 ⟨hf,ht⟩
       have hw:=ZfG i k l 0
       rw [if_pos (by simpa using ht),Zeb n l i k (by omega) (by omega),Option.bind_some,show (ofE x).T = ofT x.t_ from rfl,show (ofE y).T = ofT y.t_ from rfl,ZeL n hn hl h hx hy (by omega) (.inr rfl),Option.bind_some,if_pos (by simp; omega),Option.bind_some]
       refine .inl ⟨wo i k 0 l ++ [joinE 2 x y],?_,ZiX hx hy (by omega) (.inl ⟨rfl,hp⟩)⟩
       rw [List.map_append]
       have e:ofE (joinE 2 x y) = ⟨x.pair.from_,x.pair.to_,ofT (J 2 x.t_ y.t_)⟩:=by
        show (⟨x.pair.from_,y.pair.to_,_⟩:Ref15Edge) = _
        rw [<- ht]; rfl
       rw [List.map_cons,e]; rfl
      ·rw [if_neg (by simpa using ht)]
       exact next fun q=>ht (((Zd5 y x).1 q.2).2)
     ·rw [if_neg (by simpa using hf)]
      exact next fun q=>hf (((Zd5 y x).1 q.2).1)
    ·rw [if_neg (by simp; omega)]
     exact next fun q=>hik q.1
   ·rw [if_neg (by simpa using hkl),wrapN (by omega)]
    refine .inr ⟨rfl,fun k' hk' ⟨_,y,_,q,_⟩=>?_⟩
    have:=Zd q
    omega
include hn hl h in
theorem L1_eq:∀ (m i:Nat),i <= l.length -> l.length - i < m ->
 (∃ l',Z28 n (l.map ofE) m (i:Int) = some (l'.map ofE,true) /\ RedP l l') \/ (Z28 n (l.map ofE) m (i:Int) = some (l.map ofE,false) /\ ∀ i',i <= i' -> ∀ k',¬ Hit l i' k')
 | 0,i,hi,hm=>absurd hm (Nat.not_lt_zero _)
 | m + 1,i,hi,hm=>by
   have hlen:=h.len
   rw [Z28,List.length_map]
   by_cases hil:i < l.length
   ·obtain ⟨x,hx⟩:=Z8 hil
    rw [if_pos (by simpa using hil),show (0:Int) = ((0:Nat):Int) from rfl]
    rcases L2_eq n hn hl h i x hx (Z28 n (l.map ofE) m) n 0 (by omega) (by omega) with q | ⟨q,hq⟩
    ·exact .inl q
    ·rw [q]
     rcases L1_eq m (i + 1) (by omega) (by omega) with q2 | ⟨q2,hq2⟩
     ·exact .inl q2
     ·refine .inr ⟨q2,fun i' hi' k'=>?_⟩
      rcases Nat.eq_or_lt_of_le hi' with e | e
      ·subst e; exact hq k' (Nat.zero_le _)
      ·exact hq2 i' e k'
   ·rw [if_neg (by simpa using hil)]
    refine .inr ⟨rfl,fun i' hi' k' ⟨x,_,q,_⟩=>?_⟩
    have:=Zd q
    omega
include h in
theorem ZfQ (hno:∀ i k,¬ Hit l i k):NormalP l:=by
 intro m' ⟨K,x,y,r,p,hc,_⟩
 have hnd:=h.p.nodup
 have mx:x ∈ l:=p.symm.subset (by simp)
 have my:y ∈ l:=p.symm.subset (by simp)
 have hxy:x ≠ y:=by
  have:=p.nodup_iff.1 hnd
  intro e; subst e
  simp at this
 obtain ⟨i,hi⟩:=List.getElem?_of_mem mx
 obtain ⟨k,hk⟩:=List.getElem?_of_mem my
 have hik:i ≠ k:=fun e=>by subst e; rw [hi] at hk; cases hk; exact hxy rfl
 rcases hc with ⟨rfl,hp⟩ | hc
 ·rcases Nat.lt_or_gt_of_ne hik with e | e
  ·exact hno i k ⟨x,y,hi,hk,hik,.inl ⟨e,hp⟩⟩
  ·exact hno k i ⟨y,x,hk,hi,hik.symm,.inl ⟨e,hp.symm⟩⟩
 ·have p2:=Z9q i k hik l 0 x y (Nat.zero_le _) (Nat.zero_le _) hi hk
  have p3:r.Perm (wo i k 0 l):=(p.symm.trans p2).cons_inv.cons_inv
  have hK:K = 1:=hc.1
  subst hK
  exact hno i k ⟨x,y,hi,hk,hik,.inr (CondP.perm (.inr hc) p3)⟩
include hn hl h in
theorem Zkl:(∃ l',Z69 n (l.map ofE) = some (l'.map ofE,true) /\ RedP l l') \/ (Z69 n (l.map ofE) = some (l.map ofE,false) /\ NormalP l):=by
 have hlen:=h.len
 rw [Z69,show (0:Int) = ((0:Nat):Int) from rfl]
 rcases L1_eq n hn hl h n 0 (by omega) (by omega) with q | ⟨q,hq⟩
 ·exact .inl q
 ·exact .inr ⟨q,ZfQ h fun i k=>hq i (Nat.zero_le _) k⟩
end
theorem L3_eq (n:Nat) (hn:1000000 <= n) {len:Nat} (hl:len <= 400) {rank:Str -> Nat}:∀ (m:Nat) (l:List ReduceEdge),SInv len rank l -> l.length < m ->
 ∃ m',StepsP l m' /\ NormalP m' /\ Z2R n m (l.map ofE) = Z2L (m'.map ofE)
 | 0,l,_,h=>absurd h (Nat.not_lt_zero _)
 | m + 1,l,hs,h=>by
   rw [Z2R]
   rcases Zkl n hn hl hs with ⟨l',q,hr⟩ | ⟨q,hN⟩
   ·rw [q,Option.bind_some]
    have hlen:=hr.length
    obtain ⟨m',a1,a2,a3⟩:=L3_eq n hn hl m l' (hs.red hr) (by omega)
    exact ⟨m',.head hr a1,a2,a3⟩
   ·rw [q,Option.bind_some]
    exact ⟨l,.refl (List.Perm.refl _),hN,rfl⟩
theorem Zl5 (m:List ReduceEdge):Z2L (m.map ofE) = some (ofT (redC m).1,(redC m).2):=by
 have h0:ofT (.mk 0 0 []) = .mk 0 0 []:=by rw [Ze6]; rfl
 match m with
 | [] =>
  show _ = some (ofT (.mk 0 0 []),14)
  rw [h0]; rfl
 | [x] =>
  have hat:atI ([x].map ofE) 0 = some (ofE x):=Z3j ofE [x] 0 rfl
  rw [Z2L,if_neg (by simp),hat,Option.bind_some]
  show (if (!(decide (x.pair.from_ = (⟨#[76]⟩:Str)))) = true then _ else _) = some (ofT (if x.pair.from_ = strLL /\ x.pair.to_ = strRR then (x.t_,0) else (.mk 0 0 [],14)).1,(if x.pair.from_ = strLL /\ x.pair.to_ = strRR then (x.t_,0) else (.mk 0 0 [],(14:Int))).2)
  by_cases h1:x.pair.from_ = strLL
  ·rw [if_neg (by simp only [Bool.not_eq_true',decide_eq_false_iff_not]; exact fun q=>q h1)]
   show (if (!(decide (x.pair.to_ = (⟨#[82]⟩:Str)))) = true then _ else _) = _
   by_cases h2:x.pair.to_ = strRR
   ·rw [if_neg (by simp only [Bool.not_eq_true',decide_eq_false_iff_not]; exact fun q=>q h2),if_pos ⟨h1,h2⟩]; rfl
   ·rw [if_pos (by simp only [Bool.not_eq_true',decide_eq_false_iff_not]; exact h2),if_neg (fun q=>h2 q.2)]; exact congrArg (fun z=>some (z,(14:Int))) h0.symm
  ·rw [if_pos (by simp only [Bool.not_eq_true',decide_eq_false_iff_not]; exact h1),if_neg (fun q=>h1 q.1)]; exact congrArg (fun z=>some (z,(14:Int))) h0.symm
 | x :: y :: r =>
   show _ = some (ofT (.mk 0 0 []),14)
   rw [Z2L,if_pos (by simp; omega),h0]
theorem ZiP (n:Nat) (r:ApiRung) (hs:r.Contacts.length <= 1000000):∀ (m i:Nat) (acc:List ReduceEdge),i <= r.Contacts.length -> r.Contacts.length - i < m -> acc.length = i ->
 Z3G n r m (acc.map ofE) (i:Int) = Z2R n n ((acc ++ Z1z (r.Contacts.drop i) i).map ofE)
 | 0,i,acc,h,hm,_=>absurd hm (Nat.not_lt_zero _)
 | m + 1,i,acc,h,hm,ha=>by
   rw [Z3G]
   by_cases hi:i < r.Contacts.length
   ·obtain ⟨x,hx⟩:=Z8 hi
    have e:acc.map ofE ++ [(⟨x.From,x.To,(⟨0,(i:Int),([]:List Ref14Tree)⟩:Ref14Tree)⟩:Ref15Edge)] = (acc ++ [(⟨⟨x.From,x.To⟩,.mk 0 (i:Int) []⟩:ReduceEdge)]).map ofE:=by
     rw [List.map_append]
     rfl
    rw [if_pos (by simpa using hi),Z2,hx,Option.bind_some,if_pos (by simp; omega),Option.bind_some,wrapN (by omega),e,ZiP n r hs m (i + 1) _ (by omega) (by omega) (by simp; omega),Z9 hx,Z1z,List.append_assoc]
    rfl
   ·rw [if_neg (by simpa using hi),List.drop_eq_nil_of_le (by omega),Z1z,List.append_nil,Z5I]
theorem Zh1 (n:Nat) (hn:2000000 <= n) (r:ApiRung) (hs:r.Contacts.length <= 400) :
 (flowS r.Contacts ≠ 0 /\ Z14 n r = some (.mk 0 0 [],flowS r.Contacts) /\ Z3v n r = some (ofT (.mk 0 0 []),flowS r.Contacts)) \/
 (flowS r.Contacts = 0 /\ ∃ m rank,Z14 n r = some (redC m) /\ Z3v n r = some (ofT (redC m).1,(redC m).2) /\ SInv r.Contacts.length rank m):=by
 have hf:=Zdb n r (by omega) (by omega)
 have hk:=ZkX n r (by omega) hn
 by_cases h0:flowS r.Contacts = 0
 ·right
  refine ⟨h0,?_⟩
  rw [h0] at hf hk
  obtain ⟨rank,hrk⟩:=Zf0 h0
  have hR0:=RInv.start r.Contacts rank hrk
  have hcan:canon (Z1z r.Contacts 0) = Z1z r.Contacts 0:=by
   refine List.ext_getElem? fun i=>?_
   rw [canon,List.getElem?_map,Z9O]
   cases r.Contacts[i]? with
   | none=>rfl
   | some c =>
     simp only [Option.map_some,canE]
     rw [Z5,if_neg (by decide),Z2Q]
  have hS0:SInv r.Contacts.length rank (Z1z r.Contacts 0):=⟨Z9t hR0,fun e he=>by
   rw [<- hcan,canon] at he
   obtain ⟨e',he',rfl⟩:=List.mem_map.1 he
   show Z5 (Z5 e'.t_) = Z5 e'.t_
   have hg:Good (r.Contacts.length:Int) e'.t_:=by
    obtain ⟨q,hq⟩:=Z7z he'
    have:=(Z9t hR0).perm hq
    refine ⟨this.ok e' (by simp),?_⟩
    have h1:=this.nd
    rw [List.flatMap_cons] at h1
    exact (List.nodup_append.1 h1).1
   exact Z7E hg,hR0.sz⟩
  obtain ⟨m,a1,a2,a3⟩:=L3_eq n (by omega) (by omega) n (Z1z r.Contacts 0) hS0 (by rw [Z88]; omega)
  refine ⟨m,rank,Zha n r (by omega) (by omega) hf hrk (by rw [hcan]; exact a1) a2,?_,?_⟩
  ·rw [Z3v,hk,Option.bind_some,if_neg (by simp),show (0:Int) = ((0:Nat):Int) from rfl,show ([]:List Ref15Edge) = ([]:List ReduceEdge).map ofE from rfl,ZiP n r (by omega) n 0 [] (by omega) (by omega) rfl,List.drop_zero,List.nil_append,a3,Zl5]
  ·have:∀ {l m:List ReduceEdge},StepsP l m -> SInv r.Contacts.length rank l -> SInv r.Contacts.length rank m:=by
    intro l m hst
    induction hst with
    | refl p=>intro hi; exact ⟨hi.p.perm p,fun e he=>hi.so e (p.symm.subset he),by rw [Z7y (p.symm.map fun e:ReduceEdge=>szT e.t_ + 1)]; exact hi.sz⟩
    | head hr _ ih=>intro hi; exact ih (hi.red hr)
   exact this a1 hS0
 ·left
  refine ⟨h0,?_,?_⟩
  ·rw [Z14,hf,Option.bind_some,if_pos (by simpa using h0)]
  ·rw [Z3v,hk,Option.bind_some,if_pos (by simpa using h0),Ze6]; rfl
end Go.G
namespace Go.G
open Go.Av
theorem Zj1 (n:Nat) (hn:2000000 <= n) (r:ApiRung) (hs:r.Contacts.length <= 400):Z3v n r = some (ofT (rdT n r).1,(rdT n r).2):=by
 have h1:=(Zbj n r (by omega) (by omega)).1
 rcases Zh1 n hn r hs with ⟨_,q1,q2⟩ | ⟨_,m,rank,q1,q2,_⟩
 ·rw [q1,Option.some.injEq] at h1
  rw [<- h1]; exact q2
 ·rw [q1,Option.some.injEq] at h1
  rw [<- h1]; exact q2
theorem ZbO (r:ApiRung) (hk:KindsOk r.Contacts) (hs:r.Contacts.length <= 1000000):∀ (m i:Nat) (acc:List Bool),i <= r.Contacts.length -> r.Contacts.length - i < m -> acc.length = i ->
 Z48 r m acc (i:Int) = some (acc ++ (r.Contacts.drop i).map seesS)
 | 0,i,acc,h,hm,_=>absurd hm (Nat.not_lt_zero _)
 | m + 1,i,acc,h,hm,ha=>by
   rw [Z48]
   by_cases hi:i < r.Contacts.length
   ·obtain ⟨x,hx⟩:=Z8 hi
    rw [if_pos (by simpa using hi),Z2,hx,Option.bind_some,if_pos (by simp; omega),Option.bind_some,wrapN (by omega),<- Z9w (hk x (List.mem_of_getElem? hx)),ZbO r hk hs m (i + 1) _ (by omega) (by omega) (by simp; omega),Z9 hx]
    simp
   ·rw [if_neg (by simpa using hi),List.drop_eq_nil_of_le (by omega)]; simp
theorem ZiC (n:Nat) (r:ApiRung) (hk:KindsOk r.Contacts) (hs:r.Contacts.length <= 1000000) (hn:r.Contacts.length < n):Z6q n r = some (edgeS r.Contacts):=by
 rw [Z6q,show (0:Int) = ((0:Nat):Int) from rfl,ZbO r hk hs n 0 [] (by omega) (by omega) rfl,List.drop_zero,List.nil_append]; rfl
def jlR (R:List RP):List Int:=R.map fun x=>(x.2.2:Int)
theorem J5_eq (n:Nat) (hn:2000000 <= n) (r:ApiRung) (hc:Chk r) (E:Int) (hE0:0 <= E) (hE1:E <= 16384) (i:Nat) (code:List ApiIns) (R:List RP) (hcl:code.length <= 1000000) (hRl:R.length <= 1000) (he:(cE n r E).2 = 0) (K:List Int -> Int -> Int -> List ApiIns -> List Int -> Option (ApiProgram × List Int × Int × Int)) (f:Int) (hf:f = 0) :
 Z2I n (jlR R) (i:Int) E code (ZB R) K r (ofT (rdT n r).1) f = K (jlR (R ++ [(r,code.length,(code ++ (cE n r E).1 ++ (Z27 r.Coils []).1).length)])) (IntKind.i64.wrap ((i:Int) + 1)) (IntKind.i64.wrap (E + (Pc.edges r.Contacts:Nat))) (code ++ (cE n r E).1 ++ (Z27 r.Coils []).1 ++ jm r) (ZB (R ++ [(r,code.length,(code ++ (cE n r E).1 ++ (Z27 r.Coils []).1).length)])):=by
 have hfew:=hc.few
 have hcf:=hc.cfew
 have hcl1:=Zgt n (by omega) r hc E
 have hco:=Za8 r.Coils hc.coils
 have hkl:(r.Coils.map fun c=>(⟨11 + c.Kind,c.A,0⟩:ApiIns)).length = r.Coils.length:=List.length_map _
 have hsl:(ZB R).length = R.length:=by rw [ZB,List.length_map]
 have hjl:(jlR R).length = R.length:=by rw [jlR,List.length_map]
 obtain ⟨_,ht⟩:=Zbj n r (by omega) (by omega)
 have hlay:(rdT n r).2 = 0 /\ (cE n r E).1 = layS r.Contacts (Z1j r.Contacts E) (rdT n r).1:=by
  rw [cE,contS] at he ⊢
  split at he
  ·rename_i q; exact absurd he q
  ·split at he
   ·cases he
   ·rename_i q1 q2
    have q0:(rdT n r).2 = 0:=by simpa using q1
    rw [if_neg q1,if_neg q2]
    exact ⟨q0,rfl⟩
 have hk:=ht hlay.1
 have hsz:=hk.sz
 have hrl:=ZhD hc.kinds (by omega) hE0 hE1 (szT (rdT n r).1 + 1) (rdT n r).1 n (by omega) hk.ok (by omega) (by omega)
 rw [<- hlay.2] at hrl
 have hst:ZB R ++ [(code.length:Int)] = ZB (R ++ [(r,code.length,(code ++ (cE n r E).1 ++ r.Coils.map fun c=>(⟨11 + c.Kind,c.A,0⟩:ApiIns)).length)]):=by
  rw [ZB,ZB,List.map_append]; rfl
 have hjt:jlR R ++ [((code ++ (cE n r E).1 ++ r.Coils.map fun c=>(⟨11 + c.Kind,c.A,0⟩:ApiIns)).length:Int)] = jlR (R ++ [(r,code.length,(code ++ (cE n r E).1 ++ r.Coils.map fun c=>(⟨11 + c.Kind,c.A,0⟩:ApiIns)).length)]):=by
  rw [jlR,jlR,List.map_append]; rfl
 have hxl:(code ++ (cE n r E).1 ++ r.Coils.map fun c=>(⟨11 + c.Kind,c.A,0⟩:ApiIns)).length = code.length + (cE n r E).1.length + r.Coils.length:=by
  rw [List.length_append,List.length_append,hkl]
 rw [Z2I,if_neg (by simp [hf]),if_pos (by simp [hsl]; omega),Option.bind_some,hrl,Option.bind_some,if_pos (by omega),Option.bind_some,Pc.ref16_EdgeCount_eq n r (by omega) (by omega),Option.bind_some,Zjf n r (by omega) (by omega),Option.bind_some,hco]
 dsimp only
 rw [if_pos (by rw [List.length_append,hkl]; omega),Option.bind_some,if_pos (by rw [hjl]; simp; omega),Option.bind_some,hst,hjt]
 by_cases hj:r.Jump = noS
 ·rw [if_neg (by simp only [Bool.not_eq_true',decide_eq_false_iff_not]; exact fun q=>q hj),jm,if_pos hj,List.append_nil]
 ·rw [if_pos (by simp only [Bool.not_eq_true',decide_eq_false_iff_not]; exact hj),if_pos (by rw [hxl]; simp; omega),Option.bind_some,jm,if_neg hj]
theorem Zj2 {n:Nat} {r:ApiRung} {rs:List ApiRung} {i:Nat} {E:Int} {code:List ApiIns} {R:List RP} (h:(cE n r E).2 ≠ 0):wS n (r :: rs) i E code R = .inl (i,(cE n r E).2):=by rw [wS,if_pos h]
theorem wS_ok {n:Nat} {r:ApiRung} {rs:List ApiRung} {i:Nat} {E:Int} {code:List ApiIns} {R:List RP} (h:(cE n r E).2 = 0):wS n (r :: rs) i E code R = wS n rs (i + 1) (E + (Pc.edges r.Contacts:Nat)) (code ++ (cE n r E).1 ++ (Z27 r.Coils []).1 ++ jm r) (R ++ [(r,code.length,(code ++ (cE n r E).1 ++ (Z27 r.Coils []).1).length)]):=by rw [wS,if_neg (by simpa using h)]
theorem ZjG (n:Nat) (hn:2000000 <= n) (l:ApiLadder) (hlen:l.Rungs.length <= 64) (hck:∀ r ∈ l.Rungs,Chk r):∀ (m i:Nat) (E:Int) (code:List ApiIns) (R:List RP),i <= l.Rungs.length -> l.Rungs.length - i < m -> 0 <= E -> E <= 256 * (i:Int) -> code.length <= 2000 * i -> R.length = i ->
 (∃ k e,wS n (l.Rungs.drop i) i E code R = .inl (k,e) /\ Z1q n l m (jlR R) (i:Int) E code (ZB R) = some (⟨⟨0,0,0,0⟩,[]⟩,[],(k:Int),e)) \/
 (∃ E' code' R',wS n (l.Rungs.drop i) i E code R = .inr (E',code',R') /\ Z1q n l m (jlR R) (i:Int) E code (ZB R) = Z5N n l (jlR R') E' code' (ZB R'))
 | 0,i,E,code,R,hi,hm,_,_,_,_=>absurd hm (Nat.not_lt_zero _)
 | m + 1,i,E,code,R,hi,hm,hE0,hE1,hcl,hRl=>by
   rw [Z1q]
   by_cases h:i < l.Rungs.length
   ·obtain ⟨r,hr⟩:=Z8 h
    have hc:=hck r (List.mem_of_getElem? hr)
    have hcl1:=Zgt n (by omega) r hc E
    have hcf:=hc.cfew
    have hfew:=hc.few
    have hed:=Pc.edges_le r.Contacts
    obtain ⟨_,ht⟩:=Zbj n r (by omega) (by omega)
    rw [if_pos (by simpa using h),Z2,hr,Option.bind_some,Zj1 n hn r (by omega),Option.bind_some,Z9 hr]
    dsimp only
    have bad:∀ f:Int,f ≠ 0 -> Z2I n (jlR R) (i:Int) E code (ZB R) (Z1q n l m) r (ofT (rdT n r).1) f = some (⟨⟨0,0,0,0⟩,[]⟩,[],(i:Int),f):=fun f hf=>by
     rw [Z2I,if_pos (by simpa using hf)]
    by_cases he0:(rdT n r).2 = 0
    ·have hk:=ht he0
     have hsz:=hk.sz
     have hel:(edgeS r.Contacts).length = r.Contacts.length:=by rw [edgeS,List.length_map]
     rw [if_pos (by simpa using he0),ZiC n r hc.kinds (by omega) (by omega),Option.bind_some,Zax (edgeS r.Contacts) (rdT n r).1 n (by rw [hel]; exact hk.ok) (by omega) (by omega),Option.bind_some]
     by_cases hd:64 < dp (edgeS r.Contacts) (rdT n r).1
     ·have hE:cE n r E = ([],16):=by rw [cE,contS,if_neg (by simpa using he0),if_pos hd]
      rw [if_pos (by simp; omega),bad 16 (by decide),Zj2 (by rw [hE]; decide),hE]
      exact .inl ⟨i,16,rfl,rfl⟩
     ·have hE:(cE n r E).2 = 0:=by rw [cE,contS,if_neg (by simpa using he0),if_neg hd]
      rw [if_neg (by simp; omega),J5_eq n hn r hc E hE0 (by omega) i code R (by omega) (by omega) hE _ _ he0,wS_ok hE,wrapN (by omega),wrapI (by omega) (by omega)]
      refine ZjG n hn l hlen hck m (i + 1) _ _ _ (by omega) (by omega) (by omega) (by omega) ?_ (by simp [hRl])
      have hco:=Za8 r.Coils hc.coils
      have hjm:(jm r).length <= 1:=by rw [jm]; split <;> simp
      have hkl:(Z27 r.Coils []).1.length = r.Coils.length:=by rw [hco]; exact List.length_map _
      simp only [List.length_append]; omega
    ·have hE:cE n r E = ([],(rdT n r).2):=by rw [cE,contS,if_pos he0]
     rw [if_neg (by simpa using he0),bad _ he0,Zj2 (by rw [hE]; exact he0),hE]
     exact .inl ⟨i,_,rfl,rfl⟩
   ·rw [if_neg (by simpa using h),List.drop_eq_nil_of_le (by omega),wS]
    exact .inr ⟨E,code,R,rfl,rfl⟩
theorem Zjd (n:Nat):∀ (rs:List ApiRung) (i:Nat) (E:Int) (code:List ApiIns) (R:List RP) {E':Int} {code':List ApiIns} {R':List RP},wS n rs i E code R = .inr (E',code',R') -> R'.map Prod.fst = R.map Prod.fst ++ rs
 | [],i,E,code,R,E',code',R',h=>by rw [wS] at h; cases h; simp
 | r :: rs,i,E,code,R,E',code',R',h=>by
   rw [wS] at h
   split at h
   ·cases h
   ·rw [Zjd n rs _ _ _ _ h]; simp
theorem ZeO {R:List RP} {k:Nat} {x:RP} (h:R[k]? = some x) (s:Str):labR (R.take (k + 1)) s = if x.1.Label = s then (x.2.1:Int) else labR (R.take k) s:=by
 rw [List.take_add_one,h]; exact Zfc _ _ _
theorem Zk5 {α:Type} {l:List α} {i:Nat} {x:α} (h:l[i]? = some x):l.set i x = l:=by
 refine List.ext_getElem? fun j=>?_
 by_cases e:i = j
 ·subst e; rw [List.getElem?_set_self (List.getElem?_eq_some_iff.1 h).1,h]
 ·rw [List.getElem?_set_ne e]
theorem Z89 (l:ApiLadder) (R:List RP) (hR:R.map Prod.fst = l.Rungs) (hl:l.Rungs.length <= 64) (i:Nat) (x:RP) (hx:R[i]? = some x) (last:Int) (K:Int -> List ApiIns -> Option (ApiProgram × List Int × Int × Int)):∀ (m k:Nat) (c:List ApiIns),k <= l.Rungs.length -> l.Rungs.length - k < m ->
 (x.1.Jump ≠ noS -> c[x.2.2]? = some ⟨15,⟨0,0⟩,labR (R.take k) x.1.Jump⟩) ->
 Z3t l (jlR R) (ZB R ++ [last]) (i:Int) K m (k:Int) c = K ((i + 1:Nat):Int) (if x.1.Jump = noS then c else c.set x.2.2 ⟨15,⟨0,0⟩,labR R x.1.Jump⟩)
 | 0,k,c,hk,hm,_=>absurd hm (Nat.not_lt_zero _)
 | m + 1,k,c,hk,hm,hc=>by
   have hRl:R.length = l.Rungs.length:=by rw [<- hR,List.length_map]
   have hil:=Zd hx
   have hri:l.Rungs[i]? = some x.1:=by rw [<- hR,List.getElem?_map,hx]; rfl
   rw [Z3t]
   by_cases h:k < l.Rungs.length
   ·obtain ⟨y,hy⟩:=Z8 (l:=R) (i:=k) (by omega)
    have hrk:l.Rungs[k]? = some y.1:=by rw [<- hR,List.getElem?_map,hy]; rfl
    rw [if_pos (by simpa using h),Z2,hri,Option.bind_some,wrapN (by omega)]
    by_cases hj:x.1.Jump = noS
    ·rw [if_neg (by simp only [Bool.not_eq_true',decide_eq_false_iff_not]; exact fun q=>q hj),Z89 l R hR hl i x hx last K m (k + 1) c (by omega) (by omega) (fun q=>absurd hj q)]
    ·have hcx:=hc hj
     rw [if_pos (by simp only [Bool.not_eq_true',decide_eq_false_iff_not]; exact hj),Z2,hrk,Option.bind_some]
     by_cases hlab:y.1.Label = x.1.Jump
     ·have a1:atI (jlR R) (i:Int) = some (x.2.2:Int):=by rw [Z2,jlR,List.getElem?_map,hx]; rfl
      have a2:atI (ZB R ++ [last]) (k:Int) = some (y.2.1:Int):=by
       rw [Z2,List.getElem?_append_left (by rw [ZB,List.length_map]; omega),ZB,List.getElem?_map,hy]; rfl
      have hql:=(List.getElem?_eq_some_iff.1 hcx).1
      rw [if_pos (by simpa using hlab),a1,Option.bind_some,a2,Option.bind_some,Z2,hcx,Option.bind_some,Option.bind_some,Int.toNat_natCast,Z89 l R hR hl i x hx last K m (k + 1) _ (by omega) (by omega) (fun _=>by
       rw [List.getElem?_set_self hql,ZeO hy,if_pos hlab]),if_neg hj,if_neg hj,List.set_set]
     ·rw [if_neg (by simpa using hlab),Z89 l R hR hl i x hx last K m (k + 1) c (by omega) (by omega) (fun _=>by rw [ZeO hy,if_neg hlab]; exact hcx)]
   ·rw [if_neg (by simpa using h),wrapN (by omega)]
    by_cases hj:x.1.Jump = noS
    ·rw [if_pos hj]
    ·have:=hc hj
     rw [List.take_of_length_le (by omega)] at this
     rw [if_neg hj,Zk5 this]
theorem ZhL {R:List RP} {code:List ApiIns} (h:WI code R) {i j:Nat} {x y:RP} (hx:R[i]? = some x) (hy:R[j]? = some y) (hxj:x.1.Jump ≠ noS) (hyj:y.1.Jump ≠ noS) (e:x.2.2 = y.2.2):i = j:=by
 have hp:=List.pairwise_iff_getElem.1 h.ord
 obtain ⟨h1,e1⟩:=List.getElem?_eq_some_iff.1 hx
 obtain ⟨h2,e2⟩:=List.getElem?_eq_some_iff.1 hy
 rcases Nat.lt_trichotomy i j with q | q | q
 ·have:=hp i j h1 h2 q (by rw [e1]; exact hxj)
  rw [e1,e2] at this; omega
 ·exact q
 ·have:=hp j i h2 h1 q (by rw [e2]; exact hyj)
  rw [e1,e2] at this; omega
theorem Z9Z (n:Nat) (l:ApiLadder) (R:List RP) (code:List ApiIns) (hW:WI code R) (hR:R.map Prod.fst = l.Rungs) (hl:l.Rungs.length <= 64) (hn:100 <= n) (E last:Int):∀ (m i:Nat) (c:List ApiIns),i <= l.Rungs.length -> l.Rungs.length - i < m -> c.length = code.length ->
 (∀ j:Nat,(∀ s,((j:Int),s) ∉ jsR R) -> c[j]? = code[j]?) ->
 (∀ (k:Nat) (x:RP),k < i -> R[k]? = some x -> x.1.Jump ≠ noS -> c[x.2.2]? = some ⟨15,⟨0,0⟩,labR R x.1.Jump⟩) ->
 (∀ (k:Nat) (x:RP),i <= k -> R[k]? = some x -> x.1.Jump ≠ noS -> c[x.2.2]? = some ⟨15,⟨0,0⟩,0⟩) ->
 ∃ c',Fin2 R code c' /\ Z4k n l (jlR R) E (ZB R ++ [last]) m (i:Int) c = some (⟨⟨l.I,l.Q,l.M,E⟩,c'⟩,ZB R ++ [last],(l.Rungs.length:Int),0)
 | 0,i,c,hi,hm,_,_,_,_=>absurd hm (Nat.not_lt_zero _)
 | m + 1,i,c,hi,hm,hlen,hout,hdone,htodo=>by
   have hRl:R.length = l.Rungs.length:=by rw [<- hR,List.length_map]
   rw [Z4k]
   by_cases h:i < l.Rungs.length
   ·obtain ⟨x,hx⟩:=Z8 (l:=R) (i:=i) (by omega)
    rw [if_pos (by simpa using h),show (0:Int) = ((0:Nat):Int) from rfl,Z89 l R hR hl i x hx last _ n 0 c (by omega) (by omega) (fun hj=>by
     rw [List.take_zero]; exact htodo i x (Nat.le_refl _) hx hj)]
    by_cases hj:x.1.Jump = noS
    ·rw [if_pos hj]
     refine Z9Z n l R code hW hR hl hn E last m (i + 1) c (by omega) (by omega) hlen hout (fun k y hk hy hyj=>?_) (fun k y hk hy hyj=>htodo k y (by omega) hy hyj)
     rcases Nat.lt_or_ge k i with q | q
     ·exact hdone k y q hy hyj
     ·have:k = i:=by omega
      subst this; rw [hx] at hy; cases hy; exact absurd hj hyj
    ·rw [if_neg hj]
     have hcx:=htodo i x (Nat.le_refl _) hx hj
     have hql:=(List.getElem?_eq_some_iff.1 hcx).1
     refine Z9Z n l R code hW hR hl hn E last m (i + 1) _ (by omega) (by omega) (by rw [List.length_set]; exact hlen) (fun j hjs=>?_) (fun k y hk hy hyj=>?_) (fun k y hk hy hyj=>?_)
     ·have hne:x.2.2 ≠ j:=fun e=>hjs x.1.Jump (e ▸ Zlf (List.mem_of_getElem? hx) hj)
      rw [List.getElem?_set_ne hne]; exact hout j hjs
     ·by_cases e:x.2.2 = y.2.2
      ·have:=ZhL hW hx hy hj hyj e
       subst this; rw [hx] at hy; cases hy
       rw [List.getElem?_set_self hql]
      ·rw [List.getElem?_set_ne e]
       refine hdone k y ?_ hy hyj
       rcases Nat.lt_or_ge k i with q | q
       ·exact q
       ·have:k = i:=by omega
        subst this; rw [hx] at hy; cases hy; exact absurd rfl e
     ·have hne:x.2.2 ≠ y.2.2:=fun e=>by
       have:=ZhL hW hx hy hj hyj e
       omega
      rw [List.getElem?_set_ne hne]; exact htodo k y (by omega) hy hyj
   ·rw [if_neg (by simpa using h)]
    refine ⟨c,⟨hlen,hout,fun j s hs=>?_⟩,rfl⟩
    obtain ⟨x,hx,hxj,e⟩:=Z9A hs
    obtain ⟨k,hk⟩:=List.getElem?_of_mem hx
    have hj:j = x.2.2:=by have:=congrArg Prod.fst e; simp only at this; omega
    have hs2:s = x.1.Jump:=congrArg Prod.snd e
    subst hj; subst hs2
    exact hdone k x (by have:=Zd hk; omega) hk hxj
theorem WI.snoc {code:List ApiIns} {R:List RP} (h:WI code R) (e:ApiIns):WI (code ++ [e]) R:=⟨fun x hx hj=>by
 have:=h.pos x hx hj
 rw [List.getElem?_append_left (List.getElem?_eq_some_iff.1 this).1]; exact this,h.ord⟩
theorem Fin2.snoc {R:List RP} {code c:List ApiIns} (h:Fin2 R code c) (hW:WI code R) (e:ApiIns):Fin2 R (code ++ [e]) (c ++ [e]):=by
 refine ⟨by simp [h.len],fun j hj=>?_,fun j s hs=>?_⟩
 ·by_cases q:j < code.length
  ·rw [List.getElem?_append_left (by rw [h.len]; exact q),List.getElem?_append_left q]; exact h.out j hj
  ·rw [List.getElem?_append_right (by rw [h.len]; omega),List.getElem?_append_right (by omega),h.len]
 ·obtain ⟨q,e2,hq⟩:=hW.place hs
  have:j = q:=by omega
  subst this
  rw [List.getElem?_append_left (by rw [h.len]; exact (List.getElem?_eq_some_iff.1 hq).1)]
  exact h.jmp j s hs
theorem Zi1 (n:Nat) (hn:2000000 <= n) (hb:n <= 1000000000) (l:ApiLadder) (hl:l.Rungs.length < n) (hf:∀ r ∈ l.Rungs,Pc.fewR n r) :
 ∃ W:ApiProgram × List Int × Int × Int,Z2u n l = some W /\ Z55 n l = some W /\ W.1.Code.length <= 200000 /\ W.2.1.length <= 1000:=by
 have hp:=Pc.ref11_Check_eq n l (by omega) hl hb hf
 rcases Zk9 n (by omega) hb l hl hf with ⟨h0,q⟩ | ⟨h0,q⟩
 ·refine ⟨_,q,?_,by simp,by simp⟩
  rw [Z55,hp,Option.bind_some]
  dsimp only
  rw [if_pos (by simpa using h0)]
 ·obtain ⟨c1,c2⟩:=checked h0
  have hck:∀ r ∈ l.Rungs,Chk r:=fun r hr=>by
   obtain ⟨i,hi⟩:=List.getElem?_of_mem hr
   exact ZjE (c2 i r hi)
  have e0:Z1q n l n [] 0 0 [] [] = Z1q n l n (jlR []) ((0:Nat):Int) 0 [] (ZB []):=rfl
  have hr:=ZjG n hn l c1 hck n 0 0 [] [] (by omega) (by omega) (by omega) (by omega) (by simp) rfl
  rw [List.drop_zero] at hr
  have h17:Z55 n l = Z1q n l n (jlR []) ((0:Nat):Int) 0 [] (ZB []):=by
   rw [Z55,hp,Option.bind_some]
   dsimp only
   rw [if_neg (by simpa using h0),e0]
  rcases q with ⟨k,e,q1,q2,q3⟩ | ⟨E,code,R,c,q1,hW,hF,z1,z2,q3⟩
  ·refine ⟨_,q3,?_,by simp,by simp⟩
   rw [h17]
   rcases hr with ⟨k',e',w1,w2⟩ | ⟨E',code',R',w1,_⟩
   ·rw [q1] at w1; cases w1; exact w2
   ·rw [q1] at w1; cases w1
  ·have hsl:(ZB R).length = R.length:=by rw [ZB,List.length_map]
   refine ⟨_,q3,?_,?_,?_⟩
   ·rw [h17]
    rcases hr with ⟨k',e',w1,_⟩ | ⟨E',code',R',w1,w2⟩
    ·rw [q1] at w1; cases w1
    ·rw [q1] at w1; cases w1
     have hfst:=Zjd n l.Rungs 0 0 [] [] q1
     rw [List.map_nil,List.nil_append] at hfst
     rw [w2,Z5N,if_pos (by rw [hsl]; simp; omega),Option.bind_some,if_pos (by simp; omega),Option.bind_some]
     obtain ⟨c',g1,g2⟩:=Z9Z n l R (code ++ [⟨16,⟨0,0⟩,0⟩]) (hW.snoc _) hfst c1 (by omega) E (code.length:Int) n 0 (code ++ [⟨16,⟨0,0⟩,0⟩]) (by omega) (by omega) rfl (fun _ _=>rfl) (fun k x hk=>absurd hk (Nat.not_lt_zero _)) (fun k x _ hx hj=>(hW.snoc _).pos x (List.mem_of_getElem? hx) hj)
     rw [show ((0:Nat):Int) = 0 from rfl] at g2
     rw [g2,g1.uniq (hF.snoc hW _),wRes,hF.len]
   ·show (c ++ [_]).length <= _
    rw [List.length_append,hF.len]; simp; omega
   ·show (ZB R ++ [_]).length <= _
    rw [List.length_append,hsl]; simp; omega
end Go.G
namespace Go.G
open Go.Av
theorem Zf1 (p:ApiProgram) (hs:p.Code.length <= 1000000):∀ (m i:Nat),i <= p.Code.length -> p.Code.length - i < m -> Z42 p p m (i:Int) = some true
 | 0,i,h,hm=>absurd hm (Nat.not_lt_zero _)
 | m + 1,i,h,hm=>by
   rw [Z42]
   by_cases hi:i < p.Code.length
   ·obtain ⟨x,hx⟩:=Z8 hi
    rw [if_pos (by simpa using hi),Z2,hx,Option.bind_some,Option.bind_some,if_neg (by simp),wrapN (by omega)]
    exact Zf1 p hs m (i + 1) (by omega) (by omega)
   ·rw [if_neg (by simpa using hi)]
theorem eq08 (n:Nat) (p:ApiProgram) (hs:p.Code.length <= 1000000) (hn:p.Code.length < n):Z6w n p p = some true:=by
 rw [Z6w,if_neg (by simp),if_neg (by simp),show (0:Int) = ((0:Nat):Int) from rfl]
 exact Zf1 p hs n 0 (by omega) (by omega)
theorem Zgf (l:List Int) (hs:l.length <= 1000000):∀ (m i:Nat),i <= l.length -> l.length - i < m -> Z2k l l m (i:Int) = some true
 | 0,i,h,hm=>absurd hm (Nat.not_lt_zero _)
 | m + 1,i,h,hm=>by
   rw [Z2k]
   by_cases hi:i < l.length
   ·obtain ⟨x,hx⟩:=Z8 hi
    rw [if_pos (by simpa using hi),Z2,hx,Option.bind_some,Option.bind_some,if_neg (by simp),wrapN (by omega)]
    exact Zgf l hs m (i + 1) (by omega) (by omega)
   ·rw [if_neg (by simpa using hi)]
theorem eqI (n:Nat) (l:List Int) (hs:l.length <= 1000000) (hn:l.length < n):Z4d n l l = some true:=by
 rw [Z4d,if_neg (by simp),show (0:Int) = ((0:Nat):Int) from rfl]
 exact Zgf l hs n 0 (by omega) (by omega)
theorem ZgU (n:Nat) (hn:2000000 <= n) (hb:n <= 1000000000) (hal:Z5v n = some true) (l:ApiLadder) (hl:bigL l):Z10 n l = some true:=by
 obtain ⟨b,h1⟩:=tl17 n (by omega) l hl
 rw [Z10,h1,Option.bind_some]
 by_cases c1:b > 0
 ·rw [if_pos (by simpa using c1),hal]; rfl
 rw [if_neg (by simpa using c1)]
 obtain ⟨W,w1,w2,w3,w4⟩:=Zi1 n hn hb l (by have:=hl.1; omega) (fun r hr=>by have:=hl.2 r hr; exact ⟨by omega,by omega⟩)
 rw [Z51,w1,Z6V,w2,Z65,w1,Z7k,w2]
 simp only [Option.bind_some]
 rw [hal,Option.bind_some,if_pos rfl,eq08 n W.1 (by omega) (by omega),Option.bind_some,if_pos rfl,if_pos (by simp),if_pos (by simp),eqI n W.2.1 (by omega) (by omega),Option.bind_some,if_pos rfl]
 simp
theorem Zic (l:ApiLadder) (hl:bigL l):Z10 2000000 l = some true :=
 ZgU 2000000 (Nat.le_refl _) (by omega) ZkP l hl
end Go.G

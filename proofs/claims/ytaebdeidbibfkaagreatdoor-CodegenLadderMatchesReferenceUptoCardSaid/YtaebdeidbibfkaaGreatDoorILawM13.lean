/- Coils; the reference's code of a tree. No law is proved here. -/
import Derived.Test.YtaebdeidbibfkaaGreatDoorILawM12
import Derived.Test.YtaebdeidbibfkaaGreatDoorIGd
import Derived.Test.YtaebdeidbibfkaaGreatDoorIGpc
set_option linter.unusedSimpArgs false
set_option linter.unusedVariables false
set_option linter.unusedSectionVars false
namespace Go.G
open Go.Av
def badC (c:ApiCoil):Bool:=decide (c.Kind < 0) || decide (c.Kind >= 4)
def Z27 (cs:List ApiCoil) (acc:List ApiIns):List ApiIns × Int:=if cs.any badC then ([],8) else (acc ++ cs.map fun c=>⟨11 + c.Kind,c.A,0⟩,0)
theorem Zcm (c:ApiCoil) (cs:List ApiCoil) (acc:List ApiIns) (h:badC c = false):Z27 (c :: cs) acc = Z27 cs (acc ++ [⟨11 + c.Kind,c.A,0⟩]):=by
 simp [Z27,h]
theorem Ze9 (r:ApiRung) (hs:r.Coils.length <= 1000000):∀ (m i:Nat) (acc:List ApiIns),i <= r.Coils.length -> r.Coils.length - i < m -> acc.length + (r.Coils.length - i) <= 1000000000 ->
 Z1H r m (i:Int) acc = some (Z27 (r.Coils.drop i) acc)
 | 0,i,acc,h,hm,_=>absurd hm (Nat.not_lt_zero _)
 | m + 1,i,acc,h,hm,ha=>by
   rw [Z1H]
   by_cases hi:i < r.Coils.length
   ·obtain ⟨x,hx⟩:=Z8 hi
    rw [if_pos (by simpa using hi),Z2,hx,Option.bind_some,Z9 hx,wrapN (by omega)]
    by_cases h0:x.Kind < 0
    ·simp [h0,Z27,badC]
    by_cases h3:x.Kind >= 4
    ·simp [h0,h3,Z27,badC]
    have hb:badC x = false:=by simp [badC,h0,h3]
    have e1:=Ze9 r hs m (i + 1) (acc ++ [⟨11 + x.Kind,x.A,0⟩]) (by omega) (by omega) (by simp; omega)
    have hg:acc.length + 1 <= 1000000000:=by omega
    rw [Zcm _ _ _ hb,<- e1]
    have:x.Kind = 0 \/ x.Kind = 1 \/ x.Kind = 2 \/ x.Kind = 3:=by omega
    rcases this with e | e | e | e <;> simp [e,hg]
   ·rw [if_neg (by simpa using hi),List.drop_eq_nil_of_le (by omega)]
    simp [Z27]
theorem Z9Q (n:Nat) (r:ApiRung) (hs:r.Coils.length <= 1000000) (hn:r.Coils.length < n):Z6A n r = some (Z27 r.Coils []):=by
 have:=Ze9 r hs n 0 [] (by omega) (by omega) (by simp; omega)
 rw [show ((0:Nat):Int) = 0 from rfl,List.drop_zero] at this
 exact this
theorem Z9w {c:ApiContact} (h:0 <= c.Kind /\ c.Kind < 4):seesS c = decide (c.Kind >= 2):=by
 rw [Bool.eq_iff_iff]
 simp only [seesS,Bool.or_eq_true,beq_iff_eq,decide_eq_true_eq]
 omega
theorem Z94 (r:ApiRung) (hk:KindsOk r.Contacts) (hl:r.Contacts.length <= 1000000) {i:Nat} {c:ApiContact} (hi:r.Contacts[i]? = some c):∀ (m p:Nat) (s:Int),p <= i -> i - p < m -> 0 <= s -> s + (i - p:Nat) <= 100000000 ->
 ∃ v,Z2M r (i:Int) m s (p:Int) = some v /\ (seesS c = true -> (Z1j (r.Contacts.drop p) s)[i - p]? = some v)
 | 0,p,s,h,hm,_,_=>absurd hm (Nat.not_lt_zero _)
 | m + 1,p,s,h,hm,h0,h1=>by
   have hlt:i < r.Contacts.length:=(List.getElem?_eq_some_iff.1 hi).1
   rw [Z2M]
   by_cases hp:p < i
   ·obtain ⟨x,hx⟩:=Z8 (show p < r.Contacts.length by omega)
    obtain ⟨q,hq⟩:∃ q,i - p = q + 1:=⟨i - p - 1,by omega⟩
    have hq':i - (p + 1) = q:=by omega
    rw [if_pos (by rw [decide_eq_true_eq]; omega),Z2,hx,Option.bind_some,Z9 hx,Z1j,hq,wrapN (by omega)]
    have hse:=Z9w (hk x (List.mem_of_getElem? hx))
    by_cases hx2:x.Kind >= 2
    ·obtain ⟨v,e1,e2⟩:=Z94 r hk hl hi m (p + 1) (s + 1) (by omega) (by omega) (by omega) (by omega)
     rw [if_pos (by simpa using hx2),wrapI (by omega) (by omega)]
     refine ⟨v,e1,fun hs=>?_⟩
     rw [if_pos (by rw [hse]; simpa using hx2),List.getElem?_cons_succ,<- hq']
     exact e2 hs
    ·obtain ⟨v,e1,e2⟩:=Z94 r hk hl hi m (p + 1) s (by omega) (by omega) (by omega) (by omega)
     rw [if_neg (by simpa using hx2)]
     refine ⟨v,e1,fun hs=>?_⟩
     rw [if_neg (by rw [hse]; simpa using hx2),List.getElem?_cons_succ,<- hq']
     exact e2 hs
   ·have:p = i:=by omega
    subst this
    rw [if_neg (by simp)]
    refine ⟨s,rfl,fun hs=>?_⟩
    rw [Z9 hi,Z1j,if_pos hs,Nat.sub_self]; rfl
theorem ZaQ {c:ApiContact}:∀ (cs:List ApiContact) (s:Int) (i:Nat),cs[i]? = some c -> seesS c = false -> (Z1j cs s)[i]? = some 0
 | [],_,i,h,_=>by simp at h
 | d :: cs,s,0,h,hs=>by
   rw [List.getElem?_cons_zero] at h
   cases h
   rw [Z1j,hs,if_neg (by simp)]; rfl
 | d :: cs,s,i + 1,h,hs=>by
   rw [List.getElem?_cons_succ] at h
   rw [Z1j]
   split
   ·rw [List.getElem?_cons_succ]; exact ZaQ cs _ i h hs
   ·rw [List.getElem?_cons_succ]; exact ZaQ cs _ i h hs
theorem Zao (n:Nat) (r:ApiRung) (hk:KindsOk r.Contacts) (hl:r.Contacts.length <= 1000000) (hn:r.Contacts.length < n) {N slot:Int} (h0:0 <= N) (h1:N < r.Contacts.length) (hs0:0 <= slot) (hs1:slot <= 16384) :
 Z61 n r N slot = some ⟨ldOp (cg r.Contacts N).Kind,(cg r.Contacts N).A,ig (Z1j r.Contacts slot) N⟩:=by
 obtain ⟨i,rfl⟩:=Int.eq_ofNat_of_zero_le h0
 have hi:i < r.Contacts.length:=by omega
 obtain ⟨c,hc⟩:=Z8 hi
 have hcg:cg r.Contacts (i:Int) = c:=by rw [cg,Int.toNat_natCast,hc]; rfl
 obtain ⟨k0,k1⟩:=hk c (List.mem_of_getElem? hc)
 have hse:=Z9w ⟨k0,k1⟩
 rw [Z61,Z2,hc,Option.bind_some,hcg]
 by_cases h2:c.Kind < 2
 ·have hz:ig (Z1j r.Contacts slot) (i:Int) = 0:=by
   rw [ig,Int.toNat_natCast,ZaQ _ _ i hc (by rw [hse]; simpa using h2)]; rfl
  rw [if_pos (by simpa using h2),hz]
  have:c.Kind = 0 \/ c.Kind = 1:=by omega
  rcases this with e | e <;> simp [ldOp,e]
 ·obtain ⟨v,e1,e2⟩:=Z94 r hk hl hc n 0 slot (by omega) (by omega) (by omega) (by omega)
  have hv:ig (Z1j r.Contacts slot) (i:Int) = v:=by
   have:=e2 (by rw [hse]; simpa using h2)
   rw [List.drop_zero,Nat.sub_zero] at this
   rw [ig,Int.toNat_natCast,this]; rfl
  rw [if_neg (by simpa using h2),Z7c,show (0:Int) = ((0:Nat):Int) from rfl,e1,Option.bind_some,hv,wrapI (by omega) (by omega)]
  have:c.Kind = 2 \/ c.Kind = 3:=by omega
  rcases this with e | e <;> simp [ldOp,e]
theorem jn_eq {K k:Int} (hK:K = 1 \/ K = 2) (hk:k = 0 \/ k = 1):IntKind.i64.wrap (IntKind.i64.wrap (2 * K) + k) = jnOp K k:=by
 rcases hK with rfl | rfl <;> rcases hk with rfl | rfl <;> rfl
theorem pp_eq {K:Int} (hK:K = 1 \/ K = 2):IntKind.i64.wrap (8 + K) = ppOp K:=by
 rcases hK with rfl | rfl <;> rfl
section
variable {r:ApiRung} {slot:Int} (hk:KindsOk r.Contacts)
include hk
theorem Zhw (t:TreeTree) (hK:t.Kind = 1 \/ t.Kind = 2) (hs:t.Kids.length <= 1000000000) (hOk:∀ k ∈ t.Kids,Ok r.Contacts.length k)
 (slf:ApiRung -> Ref14Tree -> Int -> Option (List ApiIns)) (sl:List Int) (hf:∀ k ∈ t.Kids,slf r (ofT k) slot = some (layS r.Contacts sl k)) :
 ∀ (m i:Nat) (code:List ApiIns),i <= t.Kids.length -> t.Kids.length - i < m -> code.length + 3 * szL (t.Kids.drop i) <= 1000000000 ->
 Z1B r (ofT t) slot slf m code (i:Int) = some (code ++ layT r.Contacts sl t.Kind (t.Kids.drop i))
 | 0,i,code,h,hm,_=>absurd hm (Nat.not_lt_zero _)
 | m + 1,i,code,h,hm,hc=>by
   rw [Z1B,Z5V,List.length_map]
   by_cases hi:i < t.Kids.length
   ·obtain ⟨x,hx⟩:=Z8 hi
    have hmem:=List.mem_of_getElem? hx
    rw [Z9 hx,szL] at hc
    have hp:=Z8k x
    have hlx:=Z6D r.Contacts sl x
    have ih:=fun code' (h':code'.length + 3 * szL (t.Kids.drop (i + 1)) <= 1000000000)=>Zhw t hK hs hOk slf sl hf m (i + 1) code' (by omega) (by omega) h'
    rw [if_pos (by simpa using hi),Z3j ofT _ i hx,Option.bind_some,Z9 hx,layT]
    have hpush:Z3H r (ofT t) slot code (i:Int) (Z1B r (ofT t) slot slf m) (ofT x) slf
     = some (code ++ ((⟨8,⟨0,0⟩,0⟩ :: (layS r.Contacts sl x ++ [⟨ppOp t.Kind,⟨0,0⟩,0⟩])) ++ layT r.Contacts sl t.Kind (t.Kids.drop (i + 1)))):=by
     rw [Z3H,if_pos (by simp; omega),Option.bind_some,hf x hmem,Option.bind_some,if_pos (by simp; omega),Option.bind_some,if_pos (by simp; omega),Option.bind_some,Z2g,pp_eq hK,wrapN (by omega),ih _ (by simp; omega)]
     simp
    by_cases hk0:x.Kind = 0
    ·obtain ⟨n0,n1⟩:=Zew (hOk x hmem) hk0
     rw [if_pos (by rw [Z2g]; simpa using hk0),ofT_N,cg_at n0 n1,Option.bind_some]
     have hkd:=hk.cg n0 n1
     have hse:=Z9w hkd
     by_cases h2:(cg r.Contacts x.N).Kind < 2
     ·rw [if_pos (by simpa using h2),if_pos (show x.Kind = 0 /\ seesS (cg r.Contacts x.N) = false from ⟨hk0,by rw [hse]; simpa using h2⟩),Z2g,jn_eq hK (by omega),if_pos (by simp; omega),Option.bind_some,wrapN (by omega),ih _ (by simp; omega)]
      simp
     ·rw [if_neg (by simpa using h2),if_neg (show ¬ (x.Kind = 0 /\ seesS (cg r.Contacts x.N) = false) from fun q=>by rw [hse] at q; exact h2 (by simpa using q.2))]
      exact hpush
    ·rw [if_neg (by rw [Z2g]; simpa using hk0),if_neg (fun q=>hk0 q.1)]
     exact hpush
   ·rw [if_neg (by simpa using hi),List.drop_eq_nil_of_le (by omega),layT,List.append_nil]
theorem ZiV (t:TreeTree) (hK:t.Kind = 1 \/ t.Kind = 2) (hs:t.Kids.length <= 1000000000) (hOk:∀ k ∈ t.Kids,Ok r.Contacts.length k)
 (slf:ApiRung -> Ref14Tree -> Int -> Option (List ApiIns)) (sl:List Int) (hf:∀ k ∈ t.Kids,slf r (ofT k) slot = some (layS r.Contacts sl k)) :
 ∀ (m i:Nat) (code:List ApiIns),i <= t.Kids.length -> t.Kids.length - i < m -> code.length + 3 * szL (t.Kids.drop i) <= 1000000000 ->
 Z2s r (ofT t) slot slf m code (i:Int) = some (code ++ layT r.Contacts sl t.Kind (t.Kids.drop i))
 | 0,i,code,h,hm,_=>absurd hm (Nat.not_lt_zero _)
 | m + 1,i,code,h,hm,hc=>by
   rw [Z2s,Z5V,List.length_map]
   by_cases hi:i < t.Kids.length
   ·obtain ⟨x,hx⟩:=Z8 hi
    have hmem:=List.mem_of_getElem? hx
    rw [Z9 hx,szL] at hc
    have hp:=Z8k x
    have hlx:=Z6D r.Contacts sl x
    have ih:=fun code' (h':code'.length + 3 * szL (t.Kids.drop (i + 1)) <= 1000000000)=>ZiV t hK hs hOk slf sl hf m (i + 1) code' (by omega) (by omega) h'
    rw [if_pos (by simpa using hi),Z3j ofT _ i hx,Option.bind_some,Z9 hx,layT]
    have hpush:Z4U r (ofT t) slot code (i:Int) (Z2s r (ofT t) slot slf m) (ofT x) slf
     = some (code ++ ((⟨8,⟨0,0⟩,0⟩ :: (layS r.Contacts sl x ++ [⟨ppOp t.Kind,⟨0,0⟩,0⟩])) ++ layT r.Contacts sl t.Kind (t.Kids.drop (i + 1)))):=by
     rw [Z4U,if_pos (by simp; omega),Option.bind_some,hf x hmem,Option.bind_some,if_pos (by simp; omega),Option.bind_some,if_pos (by simp; omega),Option.bind_some,Z2g,pp_eq hK,wrapN (by omega),ih _ (by simp; omega)]
     simp
    by_cases hk0:x.Kind = 0
    ·obtain ⟨n0,n1⟩:=Zew (hOk x hmem) hk0
     rw [if_pos (by rw [Z2g]; simpa using hk0),ofT_N,cg_at n0 n1,Option.bind_some]
     have hkd:=hk.cg n0 n1
     have hse:=Z9w hkd
     by_cases h2:(cg r.Contacts x.N).Kind < 2
     ·rw [if_pos (by simpa using h2),if_pos (show x.Kind = 0 /\ seesS (cg r.Contacts x.N) = false from ⟨hk0,by rw [hse]; simpa using h2⟩),Z2g,jn_eq hK (by omega),if_pos (by simp; omega),Option.bind_some,wrapN (by omega),ih _ (by simp; omega)]
      simp
     ·rw [if_neg (by simpa using h2),if_neg (show ¬ (x.Kind = 0 /\ seesS (cg r.Contacts x.N) = false) from fun q=>by rw [hse] at q; exact h2 (by simpa using q.2))]
      exact hpush
    ·rw [if_neg (by rw [Z2g]; simpa using hk0),if_neg (fun q=>hk0 q.1)]
     exact hpush
   ·rw [if_neg (by simpa using hi),List.drop_eq_nil_of_le (by omega),layT,List.append_nil]
theorem o0_eq (hl:r.Contacts.length <= 1000000) (hs0:0 <= slot) (hs1:slot <= 16384) (M:Nat) (slf:ApiRung -> Ref14Tree -> Int -> Option (List ApiIns)) (hf:∀ k,szT k < M -> Ok r.Contacts.length k -> slf r (ofT k) slot = some (layS r.Contacts (Z1j r.Contacts slot) k)) :
 ∀ (t:TreeTree) (n:Nat),Ok r.Contacts.length t -> szT t <= M -> szT t <= 300000000 -> szT t + r.Contacts.length < n -> Z4h slf n r (ofT t) slot = some (layS r.Contacts (Z1j r.Contacts slot) t):=by
 intro t
 induction t using Z25 with
 | h K N ks ih =>
   intro n hOk hM hb hn
   obtain ⟨m,rfl,hlen,hkm⟩:=Z5i (n:=n) (K:=K) (N:=N) (ks:=ks) (by omega)
   have hOk0:=hOk
   rw [Z4h,layS]
   rw [szT] at hb hM hn
   rw [Ok] at hOk
   rcases hOk with ⟨rfl,rfl,n0,n1⟩ | ⟨hK,rfl,h2,hne,hks⟩
   ·rw [if_pos (show (0:Int) = 0 from rfl),if_pos (by rw [Z2g]; rfl),ofT_N,Z1v,Zao m r hk hl (by omega) n0 n1 hs0 hs1]; rfl
   ·rw [OkL_iff] at hks
    have hK0:¬ K = 0:=by omega
    rw [if_neg (by rw [Z2g,Zi]; simpa using hK0),if_neg hK0]
    match ks,h2,hb,hM,hn,hks,ih,hlen,hkm,hOk0 with
    | k :: ks,h2,hb,hM,hn,hks,ih,hlen,hkm,hOk0 =>
      have hsl:szL (k :: ks) = szT k + szL ks:=rfl
      rw [hsl] at hb hM hn
      have hll:=Z36 ks
      have hlk:=Z6D r.Contacts (Z1j r.Contacts slot) k
      rw [Z5V,Z1,show atI ((k :: ks).map ofT) 0 = some (ofT k) from rfl,Option.bind_some,ih k (by simp) m (hks k (by simp)) (by omega) (by omega) (by omega),Option.bind_some]
      have:=Zhw (slot:=slot) hk (.mk K 0 (k :: ks)) hK (by simp [Z1]; omega) hks slf (Z1j r.Contacts slot) (fun j hj=>hf j (by have:=Z3J hj; rw [Z1,hsl] at this; omega) (hks j hj)) m 1 (layS r.Contacts (Z1j r.Contacts slot) k) (by simp [Z1]) (by simp [Z1]; omega) (by simp [Z1]; omega)
      rw [show ((1:Nat):Int) = 1 from rfl] at this
      rw [this,layH]
      simp [Z1,Zi]
theorem ZhD (hl:r.Contacts.length <= 1000000) (hs0:0 <= slot) (hs1:slot <= 16384):∀ (M:Nat) (t:TreeTree) (n:Nat),szT t < M -> Ok r.Contacts.length t -> szT t <= 300000000 -> szT t + r.Contacts.length < n -> Z2C n r (ofT t) slot = some (layS r.Contacts (Z1j r.Contacts slot) t)
 | 0,t,n,h,_,_,_=>absurd h (Nat.not_lt_zero _)
 | M + 1,.mk K N ks,n,hM,hOk,hb,hn=>by
   obtain ⟨m,rfl,hlen,hkm⟩:=Z5i (n:=n) (K:=K) (N:=N) (ks:=ks) (by omega)
   have hOk0:=hOk
   rw [Z2C,layS]
   rw [szT] at hb hM hn
   rw [Ok] at hOk
   rcases hOk with ⟨rfl,rfl,n0,n1⟩ | ⟨hK,rfl,h2,hne,hks⟩
   ·rw [if_pos (show (0:Int) = 0 from rfl),if_pos (by rw [Z2g]; rfl),ofT_N,Z1v,Zao m r hk hl (by omega) n0 n1 hs0 hs1]; rfl
   ·rw [OkL_iff] at hks
    have hK0:¬ K = 0:=by omega
    rw [if_neg (by rw [Z2g,Zi]; simpa using hK0),if_neg hK0]
    match ks,h2,hb,hM,hn,hks,hlen,hkm,hOk0 with
    | k :: ks,h2,hb,hM,hn,hks,hlen,hkm,hOk0 =>
      have hsl:szL (k :: ks) = szT k + szL ks:=rfl
      rw [hsl] at hb hM hn
      have hll:=Z36 ks
      have hlk:=Z6D r.Contacts (Z1j r.Contacts slot) k
      have ihM:=fun (j:TreeTree) (h1:szT j <= szT k + szL ks) (h2:Ok r.Contacts.length j)=>ZhD hl hs0 hs1 M j m (by omega) h2 (by omega) (by omega)
      rw [Z5V,Z1,show atI ((k :: ks).map ofT) 0 = some (ofT k) from rfl,Option.bind_some,
       o0_eq hk hl hs0 hs1 (szT k) (Z2C m) (fun j hj hj2=>ihM j (by omega) hj2) k m (hks k (by simp)) (Nat.le_refl _) (by omega) (by omega),Option.bind_some]
      have:=ZiV (slot:=slot) hk (.mk K 0 (k :: ks)) hK (by simp [Z1]; omega) hks (Z2C m) (Z1j r.Contacts slot) (fun j hj=>ihM j (by have:=Z3J hj; rw [Z1,hsl] at this; omega) (hks j hj)) m 1 (layS r.Contacts (Z1j r.Contacts slot) k) (by simp [Z1]) (by simp [Z1]; omega) (by simp [Z1]; omega)
      rw [show ((1:Nat):Int) = 1 from rfl] at this
      rw [this,layH]
      simp [Z1,Zi]
end
theorem Zcs (r:ApiRung) (hs:r.Coils.length <= 1000000):∀ (m i:Nat) (acc:List ApiIns),i <= r.Coils.length -> r.Coils.length - i < m -> acc.length + (r.Coils.length - i) <= 1000000000 ->
 Z44 r m acc (i:Int) = some (Z27 (r.Coils.drop i) acc)
 | 0,i,acc,h,hm,_=>absurd hm (Nat.not_lt_zero _)
 | m + 1,i,acc,h,hm,ha=>by
   rw [Z44]
   by_cases hi:i < r.Coils.length
   ·obtain ⟨x,hx⟩:=Z8 hi
    rw [if_pos (by simpa using hi),Z2,hx,Option.bind_some,Z9 hx,wrapN (by omega)]
    by_cases h0:x.Kind < 0
    ·simp [h0,Z27,badC]
    by_cases h3:x.Kind >= 4
    ·have:x.Kind > 3:=by omega
     simp [h0,h3,this,Z27,badC]
    have hb:badC x = false:=by simp [badC,h0,h3]
    have e2:=Zcs r hs m (i + 1) (acc ++ [⟨11 + x.Kind,x.A,0⟩]) (by omega) (by omega) (by simp; omega)
    have h3':¬ x.Kind > 3:=by omega
    have hg:acc.length + 1 <= 1000000000:=by omega
    rw [Zcm _ _ _ hb,<- e2]
    have hw:IntKind.i64.wrap (11 + x.Kind) = 11 + x.Kind:=wrapI (by omega) (by omega)
    simp [h0,h3',hg,hw]
   ·rw [if_neg (by simpa using hi),List.drop_eq_nil_of_le (by omega)]
    simp [Z27]
theorem Zjf (n:Nat) (r:ApiRung) (hs:r.Coils.length <= 1000000) (hn:r.Coils.length < n):Z7G n r = some (Z27 r.Coils []):=by
 have:=Zcs r hs n 0 [] (by omega) (by omega) (by simp; omega)
 rw [show ((0:Nat):Int) = 0 from rfl,List.drop_zero] at this
 exact this
end Go.G
namespace Go.G
open Go.Av
theorem Zf0 {cs:List ApiContact} (h:flowS cs = 0):∃ rank:Str -> Nat,∀ c ∈ cs,rank c.From < rank c.To:=by
 unfold flowS at h
 split at h
 ·cases h
 ·split at h
  ·cases h
  ·rename_i q; exact Classical.not_not.1 q
end Go.G
namespace Go.G
open Go.Av
structure Chk (r:ApiRung):Prop where
 kinds:KindsOk r.Contacts
 few:r.Contacts.length <= 256
 coils:r.Coils.any badC = false
 cfew:r.Coils.length <= 16
theorem Zd8 {s:ApiSize} {k:Int} {a:ApiAddr} (h:Pc.partS s k a = 0):0 <= k /\ k < 4:=by
 unfold Pc.partS at h
 by_cases hk:k < 0 \/ 4 <= k
 ·rw [if_pos hk] at h; cases h
 ·omega
theorem Z9k {s:ApiSize}:∀ {cs:List ApiContact},Pc.contactsC s cs = 0 -> KindsOk cs
 | [],_=>fun c hc=>by cases hc
 | c :: cs,h=>by
   rw [Pc.contactsC] at h
   by_cases hp:Pc.partS s c.Kind c.A = 0
   ·rw [if_neg (by simpa using hp)] at h
    split at h
    ·cases h
    ·split at h
     ·cases h
     ·intro d hd
      rcases List.mem_cons.1 hd with rfl | hd
      ·exact Zd8 hp
      ·exact Z9k h d hd
   ·rw [if_pos hp] at h; exact absurd h hp
theorem Zcn {s:ApiSize}:∀ {cs:List ApiCoil},Pc.coilsC s cs = 0 -> cs.any badC = false
 | [],_=>rfl
 | c :: cs,h=>by
   rw [Pc.coilsC] at h
   by_cases hp:Pc.partS s c.Kind c.A = 0
   ·rw [if_neg (by simpa using hp)] at h
    split at h
    ·cases h
    ·have:=Zd8 hp
     rw [List.any_cons,Zcn h,Bool.or_false,badC]
     simp; omega
   ·rw [if_pos hp] at h; exact absurd h hp
theorem ZjE {s:ApiSize} {b:List ApiRung} {r:ApiRung} (h:Pc.rungC s b r = 0):Chk r:=by
 have h1:Pc.restC s r = 0:=by
  unfold Pc.rungC at h
  split at h
  ·exact h
  ·split at h
   ·cases h
   ·split at h
    ·cases h
    ·exact h
 unfold Pc.restC at h1
 by_cases h2:Pc.contactsC2 s r = 0
 ·rw [if_neg (by simpa using h2)] at h1
  by_cases h3:Pc.coilsC2 s r = 0
  ·unfold Pc.contactsC2 at h2
   unfold Pc.coilsC2 at h3
   split at h2
   ·cases h2
   ·split at h3
    ·cases h3
    ·exact ⟨Z9k h2,by omega,Zcn h3,by omega⟩
  ·rw [if_pos h3] at h1; exact absurd h1 h3
 ·rw [if_pos h2] at h1; exact absurd h1 h2
theorem Zeh {s:ApiSize} {L:List ApiRung}:∀ (rs:List ApiRung) (i:Nat),(∀ x,Pc.rungsC s L rs i = some x -> x.2 ≠ 0) /\ (Pc.rungsC s L rs i = none -> ∀ (k:Nat) r,rs[k]? = some r -> Pc.rungC s (L.take (i + k)) r = 0)
 | [],i=>⟨fun x h=>(by cases h),fun _ k r h=>(by simp at h)⟩
 | r :: rs,i=>by
   obtain ⟨h1,h2⟩:=Zeh (s:=s) (L:=L) rs (i + 1)
   rw [Pc.rungsC]
   by_cases h:Pc.rungC s (L.take i) r = 0
   ·rw [if_neg (by simpa using h)]
    refine ⟨h1,fun hn k q hk=>?_⟩
    cases k with
    | zero=>simp at hk; subst hk; exact h
    | succ k =>
      have:=h2 hn k q (by simpa using hk)
      rw [show i + (k + 1) = i + 1 + k by omega]; exact this
   ·rw [if_pos h]
    refine ⟨fun x hx=>?_,fun hn=>by cases hn⟩
    cases hx; exact h
theorem checked {l:ApiLadder} (h:(Pc.checkS l).2 = 0):l.Rungs.length <= 64 /\ ∀ (i:Nat) r,l.Rungs[i]? = some r -> Pc.rungC (Pc.sizesOf l) (l.Rungs.take i) r = 0:=by
 unfold Pc.checkS at h
 split at h
 ·cases h
 ·split at h
  ·cases h
  ·obtain ⟨h1,h2⟩:=Zeh (s:=Pc.sizesOf l) (L:=l.Rungs) l.Rungs 0
   cases hc:Pc.rungsC (Pc.sizesOf l) l.Rungs l.Rungs 0 with
   | some x=>rw [hc] at h; exact absurd h (h1 x hc)
   | none=>exact ⟨by omega,fun i r hr=>by have:=h2 hc i r hr; rwa [Nat.zero_add] at this⟩
def edgeS (cs:List ApiContact):List Bool:=cs.map seesS
theorem Zkd {α:Type} (acc:List α) (m:Nat) (z v:α) (hm:0 < m):(acc ++ List.replicate m z).set acc.length v = (acc ++ [v]) ++ List.replicate (m - 1) z:=by
 obtain ⟨k,rfl⟩:∃ k,m = k + 1:=⟨m - 1,by omega⟩
 rw [List.set_append_right _ _ (Nat.le_refl _)]; simp [List.replicate_succ]
theorem Zgi (n:Nat) (r:ApiRung) (slot:Int) (t:TreeTree) (hs:r.Contacts.length <= 1000000):∀ (m i:Nat) (pre:List Bool),pre = (edgeS r.Contacts).take i -> i <= r.Contacts.length -> r.Contacts.length - i < m ->
 Z2n n r slot t m (i:Int) (pre ++ List.replicate (r.Contacts.length - i) false) = Z34 n r slot t (edgeS r.Contacts)
 | 0,i,pre,hp,hi,hm=>absurd hm (Nat.not_lt_zero _)
 | m + 1,i,pre,hp,hi,hm=>by
   rw [Z2n]
   have hpl:pre.length = i:=by rw [hp,List.length_take,edgeS,List.length_map]; omega
   by_cases h:i < r.Contacts.length
   ·obtain ⟨x,hx⟩:=Z8 h
    have hat:atI (pre ++ List.replicate (r.Contacts.length - i) false) (i:Int) = some false:=by
     rw [Z2,List.getElem?_append_right (by omega),hpl,Nat.sub_self,List.getElem?_replicate,if_pos (by omega)]
    have hset:(pre ++ List.replicate (r.Contacts.length - i) false).set i (seesS x) = (pre ++ [seesS x]) ++ List.replicate (r.Contacts.length - (i + 1)) false:=by
     have:=Zkd pre (r.Contacts.length - i) false (seesS x) (by omega)
     rw [hpl] at this
     rw [this,show r.Contacts.length - i - 1 = r.Contacts.length - (i + 1) by omega]
    rw [if_pos (by simpa using h),Z2,hx,Option.bind_some,Z78,Option.bind_some,hat,Option.bind_some,Option.bind_some,Int.toNat_natCast,hset,wrapN (by omega)]
    refine Zgi n r slot t hs m (i + 1) _ ?_ (by omega) (by omega)
    rw [hp,List.take_add_one]; simp [edgeS,hx]
   ·rw [if_neg (by simpa using h),show r.Contacts.length - i = 0 by omega,List.replicate_zero,List.append_nil,hp,List.take_of_length_le (by rw [edgeS,List.length_map]; omega)]
structure TreeOk (r:ApiRung) (t:TreeTree):Prop where
 ok:Ok (r.Contacts.length:Int) t
 nd:(lv t).Nodup
 len:(lv t).length = r.Contacts.length
 sz:szT t <= 2 * r.Contacts.length
def contS (t:TreeTree) (e:Int) (r:ApiRung) (slot:Int):List ApiIns × Int :=
 if e ≠ 0 then ([],e) else if 64 < dp (edgeS r.Contacts) t then ([],16) else (layS r.Contacts (Z1j r.Contacts slot) t,0)
theorem Zg3 (n:Nat) (hn:1000000 <= n) (r:ApiRung) (hc:Chk r) {t:TreeTree} {e:Int} (hr:Z14 n r = some (t,e)) (ht:e = 0 -> TreeOk r t) (slot:Int) (h0:0 <= slot) (h1:slot <= 16384):Z3e n r slot = some (contS t e r slot):=by
 have hf:=hc.few
 rw [Z3e,hr,Option.bind_some,contS]
 by_cases he:e = 0
 ·have hk:=ht he
  have hsz:=hk.sz
  have hchk:checkS t (r.Contacts.length:Int) = 0:=(Z9W t r.Contacts.length).2 ⟨hk.ok,hk.nd,hk.len⟩
  have hlp:=Zgi n r slot t (by omega) n 0 [] rfl (by omega) (by omega)
  rw [List.nil_append,Nat.sub_zero,show ((0:Nat):Int) = 0 from rfl] at hlp
  have hel:(edgeS r.Contacts).length = r.Contacts.length:=by rw [edgeS,List.length_map]
  have hbad:r.Contacts.any badK = false:=List.any_eq_false.2 fun c hcm=>by
   have:=hc.kinds c hcm
   simp [badK]; omega
  dsimp only
  rw [if_neg (by simp [he]),if_pos ⟨by omega,by omega,by omega⟩,Option.bind_some,hlp,Z34,Zb1 t _ n (by omega) (by omega),hel,if_pos hchk,Option.bind_some,if_neg (show ¬ (e ≠ 0) by simpa using he)]
  dsimp only
  rw [if_neg (by simp)]
  by_cases hd:64 < dp (edgeS r.Contacts) t
  ·rw [if_pos (by simp; omega),if_pos hd]
  ·rw [if_neg (by simp; omega),if_neg hd,Ze3 n r t slot (by omega) (by omega) (by omega) (by omega),treeS,if_neg (by simpa using hchk),hbad,if_neg (by simp),if_neg (by omega)]
   rfl
 ·dsimp only
  rw [if_pos (by simpa using he),if_pos he]
theorem Zhq (n:Nat) (r:ApiRung) (hl:r.Contacts.length <= 1000) (hn:1000000 <= n):∃ t e,Z14 n r = some (t,e) /\ (e = 0 -> TreeOk r t):=by
 have hf:=Zdb n r (by omega) (by omega)
 have hr:flowS r.Contacts = 0 -> ∃ rank:Str -> Nat,∀ c ∈ r.Contacts,rank c.From < rank c.To:=Zf0
 rcases Zjt n r (by omega) (by omega) hf hr with ⟨h1,h2⟩ | ⟨h1,l,h2,h3⟩
 ·exact ⟨_,_,h2,fun e=>absurd e h1⟩
 ·obtain ⟨rank,hrk⟩:=hr h1
  have hi:=(RInv.start r.Contacts rank hrk).reds h2
  rw [Zec] at h3
  match l,hi,h3 with
  | [],_,h3=>exact ⟨_,_,h3,fun e=>by cases e⟩
  | x :: y :: l,_,h3=>exact ⟨_,_,h3,fun e=>by cases e⟩
  | [x],hi,h3 =>
   have e:canon [x] = [canE x]:=rfl
   rw [e,redC] at h3
   split at h3
   ·refine ⟨_,_,h3,fun _=>?_⟩
    have g1:Good (r.Contacts.length:Int) x.t_:=⟨hi.ok x (by simp),by have:=hi.lv; simpa using this⟩
    have g2:(lv x.t_).length = r.Contacts.length:=by have:=hi.all; simpa using this
    refine ⟨Z6Y g1.ok,(Z57 x.t_).nodup_iff.2 g1.nd,?_,?_⟩
    ·show (lv (Z5 x.t_)).length = _
     rw [(Z57 x.t_).length_eq]; exact g2
    ·show szT (Z5 x.t_) <= _
     rw [Zae]
     have:=hi.sz
     simp at this
     omega
   ·exact ⟨_,_,h3,fun e=>by cases e⟩
def rdT (n:Nat) (r:ApiRung):TreeTree × Int:=(Z14 n r).getD (.mk 0 0 [],0)
theorem Zbj (n:Nat) (r:ApiRung) (hl:r.Contacts.length <= 1000) (hn:1000000 <= n):Z14 n r = some (rdT n r) /\ ((rdT n r).2 = 0 -> TreeOk r (rdT n r).1):=by
 obtain ⟨t,e,h1,h2⟩:=Zhq n r hl hn
 rw [rdT,h1]
 exact ⟨rfl,h2⟩
def cE (n:Nat) (r:ApiRung) (E:Int):List ApiIns × Int:=contS (rdT n r).1 (rdT n r).2 r E
theorem cE_eq (n:Nat) (hn:1000000 <= n) (r:ApiRung) (hc:Chk r) (E:Int) (h0:0 <= E) (h1:E <= 16384):Z3e n r E = some (cE n r E):=by
 have hf:=hc.few
 obtain ⟨q1,q2⟩:=Zbj n r (by omega) hn
 exact Zg3 n hn r hc q1 q2 E h0 h1
theorem Zgt (n:Nat) (hn:1000000 <= n) (r:ApiRung) (hc:Chk r) (E:Int):(cE n r E).1.length <= 1600:=by
 have hf:=hc.few
 obtain ⟨q1,q2⟩:=Zbj n r (by omega) hn
 rw [cE,contS]
 split
 ·simp
 ·rename_i he
  split
  ·simp
  ·have:=Z6D r.Contacts (Z1j r.Contacts E) (rdT n r).1
   have:=(q2 (by simpa using he)).sz
   show (layS r.Contacts (Z1j r.Contacts E) (rdT n r).1).length <= 1600
   omega
theorem Za8 (cs:List ApiCoil) (h:cs.any badC = false):Z27 cs [] = (cs.map fun c=>(⟨11 + c.Kind,c.A,0⟩:ApiIns),0):=by
 rw [Z27,h,if_neg (by simp),List.nil_append]
def noS:Str:=⟨#[]⟩
def jm (r:ApiRung):List ApiIns:=if r.Jump = noS then [] else [⟨15,⟨0,0⟩,0⟩]
abbrev RP:=ApiRung × Nat × Nat
def wS (n:Nat):List ApiRung -> Nat -> Int -> List ApiIns -> List RP -> (Nat × Int) ⊕ (Int × List ApiIns × List RP)
 | [],_,E,code,R=>.inr (E,code,R)
 | r :: rs,i,E,code,R=>if (cE n r E).2 ≠ 0 then .inl (i,(cE n r E).2) else
    wS n rs (i + 1) (E + (Pc.edges r.Contacts:Nat)) (code ++ (cE n r E).1 ++ (Z27 r.Coils []).1 ++ jm r) (R ++ [(r,code.length,(code ++ (cE n r E).1 ++ (Z27 r.Coils []).1).length)])
def ZB (R:List RP):List Int:=R.map fun x=>(x.2.1:Int)
def jsR (R:List RP):List (Int × Str):=(R.filter fun x=>decide (x.1.Jump ≠ noS)).map fun x=>((x.2.2:Int),x.1.Jump)
def labR (R:List RP) (s:Str):Int:=R.foldl (fun a x=>if x.1.Label = s then (x.2.1:Int) else a) 0
theorem Zg6 {α β:Type} [BEq α] [LawfulBEq α] (k:α) (v:β) (s:α):∀ m:List (α × β),mGet (mPut m k v) s = if s == k then some v else mGet m s
 | []=>by simp only [mPut,mGet]
 | p :: m=>by
   rw [mPut]
   by_cases h:k = p.1
   ·rw [if_pos (by simpa using h),mGet,mGet]
    by_cases hs:s = k
    ·subst hs; simp
    ·have:¬ s = p.1:=fun e=>hs (e.trans h.symm)
     simp [hs,this]
   ·rw [if_neg (by simpa using h),mGet,mGet,Zg6 k v s m]
    by_cases hs:s = p.1
    ·have:¬ s = k:=fun e=>h (e ▸ hs)
     simp [hs,Ne.symm h]
    ·simp [hs]
theorem Zgm {α β:Type} [BEq α] [LawfulBEq α] (k:α) (v:β):∀ m:List (α × β),(∀ p ∈ m,p.1 ≠ k) -> mPut m k v = m ++ [(k,v)]
 | [],_=>rfl
 | p :: m,h=>by
   rw [mPut,if_neg (by simpa using (h p (by simp)).symm),Zgm k v m fun q hq=>h q (by simp [hq])]
   rfl
theorem Zfc (R:List RP) (x:RP) (s:Str):labR (R ++ [x]) s = if x.1.Label = s then (x.2.1:Int) else labR R s:=by
 rw [labR,labR,List.foldl_append]; rfl
theorem ZgL (R:List RP) (x:RP):jsR (R ++ [x]) = if x.1.Jump = noS then jsR R else jsR R ++ [((x.2.2:Int),x.1.Jump)]:=by
 rw [jsR,List.filter_append,List.map_append]
 by_cases h:x.1.Jump = noS
 ·simp [h,jsR]
 ·simp [h,jsR]
theorem Z9A {R:List RP} {p:Int × Str} (h:p ∈ jsR R):∃ x ∈ R,x.1.Jump ≠ noS /\ p = ((x.2.2:Int),x.1.Jump):=by
 rw [jsR,List.mem_map] at h
 obtain ⟨x,hx,rfl⟩:=h
 rw [List.mem_filter] at hx
 exact ⟨x,hx.1,by simpa using hx.2,rfl⟩
theorem Zlf {R:List RP} {x:RP} (hx:x ∈ R) (hj:x.1.Jump ≠ noS):((x.2.2:Int),x.1.Jump) ∈ jsR R:=by
 rw [jsR,List.mem_map]
 exact ⟨x,List.mem_filter.2 ⟨hx,by simpa using hj⟩,rfl⟩
theorem ZcG (n:Nat) (hn:1000000 <= n) (l:ApiLadder) (hlen:l.Rungs.length <= 64) (hck:∀ r ∈ l.Rungs,Chk r):∀ (m i:Nat) (M:List (Str × Int)) (E:Int) (code:List ApiIns) (R:List RP),i <= l.Rungs.length -> l.Rungs.length - i < m -> 0 <= E -> E <= 256 * (i:Int) -> code.length <= 2000 * i -> R.length = i ->
 (∀ s,(mGet M s).getD 0 = labR R s) -> (∀ x ∈ R,x.2.2 + (jm x.1).length <= code.length) ->
 (∃ k e,wS n (l.Rungs.drop i) i E code R = .inl (k,e) /\ e ≠ 0 /\ Z1s n l m M (jsR R) (i:Int) E code (ZB R) = some (⟨⟨0,0,0,0⟩,[]⟩,[],(k:Int),e)) \/
 (∃ E' code' R' M',wS n (l.Rungs.drop i) i E code R = .inr (E',code',R') /\ Z1s n l m M (jsR R) (i:Int) E code (ZB R) = Z49 n l M' (jsR R') E' code' (ZB R') /\ (∀ s,(mGet M' s).getD 0 = labR R' s) /\ code'.length <= 2000 * l.Rungs.length /\ R'.length = l.Rungs.length)
 | 0,i,M,E,code,R,hi,hm,_,_,_,_,_,_=>absurd hm (Nat.not_lt_zero _)
 | m + 1,i,M,E,code,R,hi,hm,hE0,hE1,hcl,hRl,hM,hR=>by
   rw [Z1s]
   by_cases h:i < l.Rungs.length
   ·obtain ⟨r,hr⟩:=Z8 h
    have hc:=hck r (List.mem_of_getElem? hr)
    have hcl1:=Zgt n hn r hc E
    have hco:=Za8 r.Coils hc.coils
    have hcf:=hc.cfew
    have hfew:=hc.few
    have hed:=Pc.edges_le r.Contacts
    rw [if_pos (by simpa using h),Z2,hr,Option.bind_some,cE_eq n hn r hc E hE0 (by omega),Option.bind_some,Z9 hr,wS]
    dsimp only
    by_cases he:(cE n r E).2 = 0
    ·rw [if_neg (by simpa using he),if_neg (by simpa using he),Z9Q n r (by omega) (by omega),Option.bind_some,hco]
     dsimp only
     have hkl:(r.Coils.map fun c=>(⟨11 + c.Kind,c.A,0⟩:ApiIns)).length = r.Coils.length:=List.length_map _
     have hsl:(ZB R).length = i:=by rw [ZB,List.length_map]; exact hRl
     have hst:ZB R ++ [(code.length:Int)] = ZB (R ++ [(r,code.length,(code ++ (cE n r E).1 ++ r.Coils.map fun c=>(⟨11 + c.Kind,c.A,0⟩:ApiIns)).length)]):=by
      rw [ZB,ZB,List.map_append]; rfl
     have hxl:(code ++ (cE n r E).1 ++ r.Coils.map fun c=>(⟨11 + c.Kind,c.A,0⟩:ApiIns)).length = code.length + (cE n r E).1.length + r.Coils.length:=by
      rw [List.length_append,List.length_append,hkl]
     have hM2:∀ s,(mGet (mPut M r.Label (code.length:Int)) s).getD 0 = labR (R ++ [(r,code.length,(code ++ (cE n r E).1 ++ r.Coils.map fun c=>(⟨11 + c.Kind,c.A,0⟩:ApiIns)).length)]) s:=fun s=>by
      rw [Zg6,Zfc]
      by_cases hs:r.Label = s
      ·rw [if_pos (by simp [hs]),if_pos hs]; rfl
      ·rw [if_neg (by simpa using Ne.symm hs),if_neg hs]; exact hM s
     rw [if_neg (by simp),if_pos (by simp [hsl]; omega),Option.bind_some,Pc.rungeval_EdgeCount_eq n r (by omega) (by omega),Option.bind_some,if_pos (by omega),Option.bind_some,if_pos (by rw [List.length_append,hkl]; omega),Option.bind_some,hst,wrapN (by omega),wrapI (by omega) (by omega)]
     by_cases hj:r.Jump = noS
     ·have hjm:jm r = []:=by rw [jm,if_pos hj]
      have hjs:jsR (R ++ [(r,code.length,(code ++ (cE n r E).1 ++ r.Coils.map fun c=>(⟨11 + c.Kind,c.A,0⟩:ApiIns)).length)]) = jsR R:=by rw [ZgL,if_pos hj]
      rw [if_neg (by simp only [Bool.not_eq_true',decide_eq_false_iff_not]; exact fun q=>q hj),hjm,List.append_nil]
      rw [<- hjs]
      refine ZcG n hn l hlen hck m (i + 1) _ _ _ _ (by omega) (by omega) (by omega) (by omega) (by omega) (by simp [hRl]) hM2 fun x hx=>?_
      rcases List.mem_append.1 hx with hx | hx
      ·have:=hR x hx; omega
      ·rw [List.mem_singleton] at hx; subst hx
       dsimp only
       rw [hjm]; simp
     ·have hjm:jm r = [⟨15,⟨0,0⟩,0⟩]:=by rw [jm,if_neg hj]
      have hnew:mPut (jsR R) ((code ++ (cE n r E).1 ++ r.Coils.map fun c=>(⟨11 + c.Kind,c.A,0⟩:ApiIns)).length:Int) r.Jump = jsR (R ++ [(r,code.length,(code ++ (cE n r E).1 ++ r.Coils.map fun c=>(⟨11 + c.Kind,c.A,0⟩:ApiIns)).length)]):=by
       rw [ZgL,if_neg hj,Zgm]
       intro p hp
       obtain ⟨x,hx,hxj,rfl⟩:=Z9A hp
       have:=hR x hx
       rw [jm,if_neg hxj,List.length_singleton] at this
       dsimp only
       omega
      rw [if_pos (by simp only [Bool.not_eq_true',decide_eq_false_iff_not]; exact hj),if_pos (by rw [hxl]; simp; omega),Option.bind_some,hnew,hjm]
      refine ZcG n hn l hlen hck m (i + 1) _ _ _ _ (by omega) (by omega) (by omega) (by omega) (by rw [List.length_append,hxl]; simp; omega) (by simp [hRl]) hM2 fun x hx=>?_
      rcases List.mem_append.1 hx with hx | hx
      ·have:=hR x hx
       rw [List.length_append,hxl]; omega
      ·rw [List.mem_singleton] at hx; subst hx
       dsimp only
       rw [hjm]
       simp only [List.length_append]
       exact Nat.le_refl _
    ·rw [if_pos he,if_pos (by simpa using he)]
     exact .inl ⟨i,_,rfl,he,rfl⟩
   ·rw [if_neg (by simpa using h),List.drop_eq_nil_of_le (by omega),wS]
    exact .inr ⟨E,code,R,M,rfl,rfl,hM,by omega,by omega⟩
structure WI (code:List ApiIns) (R:List RP):Prop where
 pos:∀ x ∈ R,x.1.Jump ≠ noS -> code[x.2.2]? = some ⟨15,⟨0,0⟩,0⟩
 ord:R.Pairwise fun x y=>x.1.Jump ≠ noS -> x.2.2 < y.2.2
theorem Zjm (n:Nat):∀ (rs:List ApiRung) (i:Nat) (E:Int) (code:List ApiIns) (R:List RP) {E':Int} {code':List ApiIns} {R':List RP},wS n rs i E code R = .inr (E',code',R') -> WI code R -> WI code' R'
 | [],i,E,code,R,E',code',R',h,hi=>by rw [wS] at h; cases h; exact hi
 | r :: rs,i,E,code,R,E',code',R',h,hi=>by
   rw [wS] at h
   split at h
   ·cases h
   ·refine Zjm n rs _ _ _ _ h ⟨fun x hx hj=>?_,?_⟩
    ·rcases List.mem_append.1 hx with hx | hx
     ·have:=hi.pos x hx hj
      have hl:=(List.getElem?_eq_some_iff.1 this).1
      rw [List.append_assoc,List.append_assoc,List.getElem?_append_left hl]; exact this
     ·rw [List.mem_singleton] at hx; subst hx
      dsimp only at hj ⊢
      rw [List.getElem?_append_right (Nat.le_refl _),Nat.sub_self,jm,if_neg hj]; rfl
    ·refine List.pairwise_append.2 ⟨hi.ord,by simp,fun x hx y hy hj=>?_⟩
     rw [List.mem_singleton] at hy; subst hy
     have:=(List.getElem?_eq_some_iff.1 (hi.pos x hx hj)).1
     dsimp only
     simp only [List.length_append]; omega
theorem WI.uniq {code:List ApiIns} {R:List RP} (h:WI code R) {p:Int} {s s':Str} (h1:(p,s) ∈ jsR R) (h2:(p,s') ∈ jsR R):s = s':=by
 obtain ⟨x,hx,hxj,e1⟩:=Z9A h1
 obtain ⟨y,hy,hyj,e2⟩:=Z9A h2
 cases e1
 have e:y.2.2 = x.2.2:=by
  have:=congrArg Prod.fst e2
  simp only at this; omega
 have key:∀ {L:List RP},L.Pairwise (fun x y=>x.1.Jump ≠ noS -> x.2.2 < y.2.2) -> x ∈ L -> y ∈ L -> x = y:=by
  intro L hL
  induction hL with
  | nil=>intro h; cases h
  | cons ha _ ih =>
    intro hx hy
    rcases List.mem_cons.1 hx with e1 | hx2
    ·rcases List.mem_cons.1 hy with e2 | hy2
     ·rw [e1,e2]
     ·have:=ha y hy2 (e1 ▸ hxj); rw [<- e1] at this; omega
    ·rcases List.mem_cons.1 hy with e2 | hy2
     ·have:=ha x hx2 (e2 ▸ hyj); rw [<- e2] at this; omega
     ·exact ih hx2 hy2
 have:=key h.ord hx hy
 subst this
 exact (congrArg Prod.snd e2).symm
theorem WI.place {code:List ApiIns} {R:List RP} (h:WI code R) {p:Int} {s:Str} (h1:(p,s) ∈ jsR R):∃ q:Nat,p = (q:Int) /\ code[q]? = some ⟨15,⟨0,0⟩,0⟩:=by
 obtain ⟨x,hx,hxj,e⟩:=Z9A h1
 cases e
 exact ⟨_,rfl,h.pos x hx hxj⟩
structure Fin2 (R:List RP) (code c:List ApiIns):Prop where
 len:c.length = code.length
 out:∀ j:Nat,(∀ s,((j:Int),s) ∉ jsR R) -> c[j]? = code[j]?
 jmp:∀ (j:Nat) s,((j:Int),s) ∈ jsR R -> c[j]? = some ⟨15,⟨0,0⟩,labR R s⟩
theorem Fin2.uniq {R:List RP} {code c c':List ApiIns} (h:Fin2 R code c) (h':Fin2 R code c'):c = c':=by
 refine List.ext_getElem? fun j=>?_
 by_cases hj:∃ s,((j:Int),s) ∈ jsR R
 ·obtain ⟨s,hs⟩:=hj
  rw [h.jmp j s hs,h'.jmp j s hs]
 ·have:∀ s,((j:Int),s) ∉ jsR R:=fun s hs=>hj ⟨s,hs⟩
  rw [h.out j this,h'.out j this]
theorem ZdV {α:Type} {z y:α}:∀ {l:List α} {i:Nat},l[i]? = some z -> y ∈ l -> y ≠ z -> y ∈ l.eraseIdx i
 | [],i,h,_,_=>by simp at h
 | x :: l,0,h,hy,hne=>by
   simp at h; subst h
   rcases List.mem_cons.1 hy with e | hy
   ·exact absurd e hne
   ·exact hy
 | x :: l,i + 1,h,hy,hne=>by
   rw [List.eraseIdx_cons_succ]
   rcases List.mem_cons.1 hy with e | hy
   ·rw [e]; simp
   ·exact List.mem_cons_of_mem _ (ZdV (by simpa using h) hy hne)
def wRes (l:ApiLadder) (E:Int) (R:List RP) (c:List ApiIns):ApiProgram × List Int × Int × Int :=
 (⟨⟨l.I,l.Q,l.M,E⟩,c ++ [⟨16,⟨0,0⟩,0⟩]⟩,ZB R ++ [(c.length:Int)],(l.Rungs.length:Int),0)
theorem ZdS (l:ApiLadder) (M:List (Str × Int)) (E:Int) (R:List RP) (code:List ApiIns) (hW:WI code R) (hM:∀ s,(mGet M s).getD 0 = labR R s) (hcl:code.length <= 1000000) (hRl:R.length <= 1000):∀ (m:Nat) (left:List (Int × Str)) (c:List ApiIns),
 left.length < m -> (∀ z ∈ left,z ∈ jsR R) -> c.length = code.length -> (∀ j:Nat,(∀ s,((j:Int),s) ∉ jsR R) -> c[j]? = code[j]?) ->
 (∀ (j:Nat) s,((j:Int),s) ∈ jsR R -> c[j]? = some ⟨15,⟨0,0⟩,labR R s⟩ \/ (((j:Int),s) ∈ left /\ c[j]? = some ⟨15,⟨0,0⟩,0⟩)) ->
 ∃ c',Fin2 R code c' /\ Z2z l M E (ZB R) m left c = some (wRes l E R c')
 | 0,left,c,h,_,_,_,_=>absurd h (Nat.not_lt_zero _)
 | m + 1,left,c,h,hsub,hlen,hout,hjmp=>by
   rw [Z2z]
   cases hl:left.isEmpty with
   | true =>
     have hnil:left = []:=by simpa using hl
     subst hnil
     have hsl:(ZB R).length = R.length:=by rw [ZB,List.length_map]
     refine ⟨c,⟨hlen,hout,fun j s hs=>?_⟩,?_⟩
     ·rcases hjmp j s hs with q | ⟨q,_⟩
      ·exact q
      ·cases q
     ·rw [if_pos rfl,Z5e,if_pos (by rw [hsl]; simp; omega),Option.bind_some,if_pos (by simp; omega),Option.bind_some]
      rfl
   | false =>
     have hne:left ≠ []:=by intro e; subst e; simp at hl
     rw [if_neg (by simp)]
     have step:∀ (i:Nat) (z:Int × Str),left[i]? = some z -> ∃ c',Fin2 R code c' /\ ((atI c z.1).bind fun x=>(some (c.set z.1.toNat (⟨x.Op,x.A,((mGet M z.2).getD 0)⟩:ApiIns))).bind fun l2=>Z2z l M E (ZB R) m (left.eraseIdx i) l2) = some (wRes l E R c'):=by
      intro i z hz
      have hzl:=List.mem_of_getElem? hz
      obtain ⟨p,s⟩:=z
      have hzj:=hsub _ hzl
      obtain ⟨q,rfl,hq⟩:=hW.place hzj
      have hql:=(List.getElem?_eq_some_iff.1 hq).1
      obtain ⟨v,hv⟩:∃ v,c[q]? = some ⟨15,⟨0,0⟩,v⟩:=by
       rcases hjmp q s hzj with e | ⟨_,e⟩
       ·exact ⟨_,e⟩
       ·exact ⟨_,e⟩
      have hil:=Zd hz
      have hel:(left.eraseIdx i).length < m:=by rw [List.length_eraseIdx,if_pos hil]; omega
      obtain ⟨c',f1,f2⟩:=ZdS l M E R code hW hM hcl hRl m (left.eraseIdx i) (c.set q ⟨15,⟨0,0⟩,labR R s⟩) hel (fun z hz=>hsub z (List.mem_of_mem_eraseIdx hz)) (by rw [List.length_set]; exact hlen)
       (fun j hj=>by
         have hne:q ≠ j:=fun e=>hj s (e ▸ hzj)
         rw [List.getElem?_set_ne hne]; exact hout j hj)
       (fun j s' hj=>by
         by_cases e:q = j
         ·subst e
          have:=hW.uniq hzj hj
          subst this
          exact .inl (by rw [List.getElem?_set_self (by omega)])
         ·rw [List.getElem?_set_ne e]
          rcases hjmp j s' hj with w | ⟨w1,w2⟩
          ·exact .inl w
          ·refine .inr ⟨ZdV hz w1 fun e2=>e ?_,w2⟩
           have:=congrArg Prod.fst e2
           simp only at this; omega)
      refine ⟨c',f1,?_⟩
      dsimp only
      rw [Z2,hv,Option.bind_some,Option.bind_some,Int.toNat_natCast,hM s]
      exact f2
     obtain ⟨z0,hz0⟩:=Z8 (l:=left) (i:=0) (List.length_pos_iff.2 hne)
     obtain ⟨c0,g1,_⟩:=step 0 z0 hz0
     refine ⟨c0,g1,Agr.of hne fun i z hz=>?_⟩
     obtain ⟨ci,k1,k2⟩:=step i z hz
     rw [<- k1.uniq g1]
     exact k2
theorem Zk9 (n:Nat) (hn:1000000 <= n) (hb:n <= 1000000000) (l:ApiLadder) (hl:l.Rungs.length < n) (hf:∀ r ∈ l.Rungs,Pc.fewR n r) :
 ((Pc.checkS l).2 ≠ 0 /\ Z2u n l = some (⟨⟨0,0,0,0⟩,[]⟩,[],(Pc.checkS l).1,(Pc.checkS l).2)) \/
 ((Pc.checkS l).2 = 0 /\ ((∃ (k:Nat) (e:Int),wS n l.Rungs 0 0 [] [] = .inl (k,e) /\ e ≠ 0 /\ Z2u n l = some (⟨⟨0,0,0,0⟩,[]⟩,[],(k:Int),e)) \/
   (∃ E code R c,wS n l.Rungs 0 0 [] [] = .inr (E,code,R) /\ WI code R /\ Fin2 R code c /\ code.length <= 2000 * l.Rungs.length /\ R.length = l.Rungs.length /\ Z2u n l = some (wRes l E R c)))):=by
 have hp:=Pc.printer_Check_eq n l (by omega) hl hb hf
 rw [Z2u,hp,Option.bind_some]
 by_cases h0:(Pc.checkS l).2 = 0
 ·refine .inr ⟨h0,?_⟩
  obtain ⟨c1,c2⟩:=checked h0
  have hck:∀ r ∈ l.Rungs,Chk r:=fun r hr=>by
   obtain ⟨i,hi⟩:=List.getElem?_of_mem hr
   exact ZjE (c2 i r hi)
  have hW0:WI [] []:=⟨fun x hx=>(by cases hx),List.Pairwise.nil⟩
  dsimp only
  rw [if_neg (by simpa using h0)]
  rcases ZcG n hn l c1 hck n 0 [] 0 [] [] (by omega) (by omega) (by omega) (by omega) (by simp) rfl (fun s=>rfl) (fun x hx=>by cases hx) with ⟨k,e,q1,q2,q3⟩ | ⟨E',code',R',M',q1,q2,q3,q4,q5⟩
  ·rw [List.drop_zero] at q1
   exact .inl ⟨k,e,q1,q2,q3⟩
  ·rw [List.drop_zero] at q1
   have hW:=Zjm n l.Rungs 0 0 [] [] q1 hW0
   have hjl:(jsR R').length <= 64:=by
    rw [jsR,List.length_map]
    exact Nat.le_trans (List.length_filter_le _ _) (by omega)
   obtain ⟨c,f1,f2⟩:=ZdS l M' E' R' code' hW q3 (by omega) (by omega) n (jsR R') code' (by omega) (fun _ h=>h) rfl (fun _ _=>rfl) (fun j s hs=>.inr ⟨hs,by
    obtain ⟨q,e,hq⟩:=hW.place hs
    have:j = q:=by omega
    subst this; exact hq⟩)
   refine .inr ⟨E',code',R',c,q1,hW,f1,q4,q5,?_⟩
   have e:Z1s n l n [] [] 0 0 [] [] = Z1s n l n [] (jsR []) ((0:Nat):Int) 0 [] (ZB []):=rfl
   rw [e,q2,Z49]
   exact f2
 ·refine .inl ⟨h0,?_⟩
  dsimp only
  rw [if_pos (by simpa using h0)]
end Go.G
namespace Go.G
open Go.Av
theorem ZfP (l:List Str) (x:Str) (hl:l.length <= 100000000):∀ (q i:Nat),i <= l.length -> l.length - i < q -> Z4V l x q (i:Int) = some (decide (x ∈ l.drop i))
 | 0,i,h,hm=>absurd hm (Nat.not_lt_zero _)
 | q + 1,i,h,hm=>by
   rw [Z4V]
   by_cases hi:i < l.length
   ·obtain ⟨y,hy⟩:=Z8 hi
    rw [if_pos (by simpa using hi),Z2,hy,Option.bind_some,Z9 hy]
    by_cases hx:y = x
    ·rw [if_pos (by simpa using hx)]; simp [hx]
    ·have hx':¬ x = y:=fun e=>hx e.symm
     rw [if_neg (by simpa using hx),wrapN (by omega),ZfP l x hl q (i + 1) (by omega) (by omega)]; simp [hx']
   ·rw [if_neg (by simpa using hi),List.drop_eq_nil_of_le (by omega)]; simp
theorem Z73 (n:Nat) (l:List Str) (x:Str) (hl:l.length <= 100000000) (hn:l.length < n):Z2Z n l x = some (decide (x ∈ l)):=by
 rw [Z2Z,show (0:Int) = ((0:Nat):Int) from rfl,ZfP l x hl n 0 (by omega) (by omega),List.drop_zero]
theorem ZdW (l:List Str) (x:Str) (hl:l.length <= 100000000):∀ (q i:Nat),i <= l.length -> l.length - i < q -> Z4R l x q (i:Int) = some (decide (x ∈ l.drop i))
 | 0,i,h,hm=>absurd hm (Nat.not_lt_zero _)
 | q + 1,i,h,hm=>by
   rw [Z4R]
   by_cases hi:i < l.length
   ·obtain ⟨y,hy⟩:=Z8 hi
    rw [if_pos (by simpa using hi),Z2,hy,Option.bind_some,Z9 hy]
    by_cases hx:y = x
    ·rw [if_pos (by simpa using hx)]; simp [hx]
    ·have hx':¬ x = y:=fun e=>hx e.symm
     rw [if_neg (by simpa using hx),wrapN (by omega),ZdW l x hl q (i + 1) (by omega) (by omega)]; simp [hx']
   ·rw [if_neg (by simpa using hi),List.drop_eq_nil_of_le (by omega)]; simp
theorem Zgs (n:Nat) (l:List Str) (x:Str) (hl:l.length <= 100000000) (hn:l.length < n):Z6Q n l x = some (decide (x ∈ l)):=by
 rw [Z6Q,show (0:Int) = ((0:Nat):Int) from rfl,ZdW l x hl n 0 (by omega) (by omega),List.drop_zero]
theorem Z90 {α:Type}:∀ {l1 l2:List α},l1.Nodup -> (∀ x ∈ l1,x ∈ l2) -> l2.length <= l1.length -> l1.Perm l2
 | [],[],_,_,_=>.refl _
 | [],_ :: _,_,_,h=>by simp at h
 | a :: l1,l2,hd,hs,h=>by
   obtain ⟨l3,hp⟩:=Z7z (hs a (by simp))
   rw [List.nodup_cons] at hd
   refine (List.Perm.cons a (Z90 hd.2 (fun x hx=>?_) ?_)).trans hp.symm
   ·rcases List.mem_cons.1 (hp.subset (hs x (by simp [hx]))) with rfl | q
    ·exact absurd hx hd.1
    ·exact q
   ·have:=hp.length_eq
    simp only [List.length_cons] at this h
    omega
theorem Zdg {α:Type} {l1 l2:List α} (hd:l1.Nodup) (hs:∀ x ∈ l1,x ∈ l2):l1.length <= l2.length:=by
 rcases Nat.lt_or_ge l2.length l1.length with h | h
 ·have:=(Z90 hd hs (by omega)).length_eq; omega
 ·exact h
structure NodL (cs:List ApiContact) (i:Nat) (l:List Str):Prop where
 nd:l.Nodup
 nod:∀ x ∈ l,Z4C cs x
 ll:strLL ∈ l
 rr:strRR ∈ l
 all:∀ (k:Nat) (c:ApiContact),k < i -> cs[k]? = some c -> c.From ∈ l /\ c.To ∈ l
theorem NodL.add {cs:List ApiContact} {i:Nat} {l:List Str} (h:NodL cs i l) {x:Str} (hx:x ∉ l) (hn:Z4C cs x):NodL cs i (l ++ [x]):=by
 refine ⟨?_,fun y hy=>?_,by simp [h.ll],by simp [h.rr],fun k c hk hc=>⟨by simp [(h.all k c hk hc).1],by simp [(h.all k c hk hc).2]⟩⟩
 ·refine List.nodup_append.2 ⟨h.nd,by simp,fun a ha b hb=>?_⟩
  rw [List.mem_singleton] at hb; subst hb
  rintro rfl; exact hx ha
 ·rcases List.mem_append.1 hy with hy | hy
  ·exact h.nod y hy
  ·rw [List.mem_singleton] at hy; subst hy; exact hn
theorem Zcw (n:Nat) (r:ApiRung) (hs:r.Contacts.length <= 1000000) (hn:2 * r.Contacts.length + 10 <= n):∀ (q i:Nat) (l:List Str),i <= r.Contacts.length -> r.Contacts.length - i < q -> l.length <= 2 + 2 * i -> NodL r.Contacts i l ->
 ∃ l',Z1O n r q l (i:Int) = some l' /\ NodL r.Contacts r.Contacts.length l' /\ l'.length <= 2 + 2 * r.Contacts.length
 | 0,i,l,h,hm,_,_=>absurd hm (Nat.not_lt_zero _)
 | q + 1,i,l,h,hm,hl,hN=>by
   rw [Z1O]
   by_cases hi:i < r.Contacts.length
   ·obtain ⟨c,hc⟩:=Z8 hi
    have mc:=List.mem_of_getElem? hc
    rw [if_pos (by simpa using hi),Z2,hc,Option.bind_some,Z73 n l _ (by omega) (by omega),Option.bind_some]
    have key:∀ l1:List Str,l1.length <= l.length + 1 -> NodL r.Contacts i l1 -> c.From ∈ l1 ->
     ∃ l',Z45 n r (i:Int) (Z1O n r q) l1 = some l' /\ NodL r.Contacts r.Contacts.length l' /\ l'.length <= 2 + 2 * r.Contacts.length:=fun l1 h1 h2 h3=>by
     rw [Z45,Z2,hc,Option.bind_some,Z73 n l1 _ (by omega) (by omega),Option.bind_some]
     have fin:∀ l2:List Str,l2.length <= l.length + 2 -> NodL r.Contacts i l2 -> c.From ∈ l2 -> c.To ∈ l2 -> ∃ l',Z1O n r q l2 ((i + 1:Nat):Int) = some l' /\ NodL r.Contacts r.Contacts.length l' /\ l'.length <= 2 + 2 * r.Contacts.length:=fun l2 g1 g2 g3 g4=>by
      refine Zcw n r hs hn q (i + 1) l2 (by omega) (by omega) (by omega) ⟨g2.nd,g2.nod,g2.ll,g2.rr,fun k d hk hd=>?_⟩
      rcases Nat.lt_or_ge k i with hki | hki
      ·exact g2.all k d hki hd
      ·have:k = i:=by omega
       subst this; rw [hc] at hd; cases hd; exact ⟨g3,g4⟩
     by_cases ht:c.To ∈ l1
     ·rw [if_neg (by simp [ht]),wrapN (by omega)]
      exact fin l1 (by omega) h2 h3 ht
     ·rw [if_pos (by simp [ht]),if_pos (by simp; omega),Option.bind_some,wrapN (by omega)]
      exact fin _ (by simp; omega) (h2.add ht (.inr (.inr ⟨c,mc,.inr rfl⟩))) (by simp [h3]) (by simp)
    by_cases hf:c.From ∈ l
    ·rw [if_neg (by simp [hf])]
     exact key l (by omega) hN hf
    ·rw [if_pos (by simp [hf]),if_pos (by simp; omega),Option.bind_some]
     exact key _ (by simp) (hN.add hf (.inr (.inr ⟨c,mc,.inl rfl⟩))) (by simp)
   ·have:i = r.Contacts.length:=by omega
    subst this
    rw [if_neg (by simp)]
    exact ⟨l,rfl,hN,hl⟩
theorem ZbG (n:Nat) (r:ApiRung) (hs:r.Contacts.length <= 1000000) (hn:2 * r.Contacts.length + 10 <= n):∃ l,Z4J n r = some l /\ l.Nodup /\ (∀ x,x ∈ l ↔ Z4C r.Contacts x) /\ l.length <= 2 + 2 * r.Contacts.length:=by
 obtain ⟨l,h1,h2,h3⟩:=Zcw n r hs hn n 0 [strLL,strRR] (by omega) (by omega) (by simp) ⟨by decide,fun x hx=>by
  rcases List.mem_cons.1 hx with rfl | hx
  ·exact .inl rfl
  ·rw [List.mem_singleton] at hx; exact .inr (.inl hx),by simp,by simp,fun k c hk=>absurd hk (Nat.not_lt_zero _)⟩
 refine ⟨l,?_,h2.nd,fun x=>⟨h2.nod x,?_⟩,h3⟩
 ·rw [Z4J,Option.bind_some]; exact h1
 ·rintro (rfl | rfl | ⟨c,hc,hx⟩)
  ·exact h2.ll
  ·exact h2.rr
  ·obtain ⟨k,hk⟩:=List.getElem?_of_mem hc
   obtain ⟨a,b⟩:=h2.all k c (Zd hk) hk
   rcases hx with rfl | rfl
   ·exact a
   ·exact b
inductive TopoL (cs:List ApiContact):List Str -> Prop
 | nil:TopoL cs []
 | snoc {p:List Str} {x:Str} (h:TopoL cs p) (hx:x ∉ p) (hc:∀ c ∈ cs,c.To = x -> c.From ∈ p):TopoL cs (p ++ [x])
theorem TopoL.nd {cs:List ApiContact} {p:List Str} (h:TopoL cs p):p.Nodup:=by
 induction h with
 | nil=>exact List.nodup_nil
 | snoc h hx _ ih =>
   refine List.nodup_append.2 ⟨ih,by simp,fun a ha b hb=>?_⟩
   rw [List.mem_singleton] at hb; subst hb
   rintro rfl; exact hx ha
theorem TopoL.rank {cs:List ApiContact} {p:List Str} (h:TopoL cs p):∃ rank:Str -> Nat,(∀ x ∈ p,rank x < p.length) /\ ∀ c ∈ cs,c.To ∈ p -> c.From ∈ p /\ rank c.From < rank c.To:=by
 induction h with
 | nil=>exact ⟨fun _=>0,fun x hx=>by simp at hx,fun c _ hc=>by simp at hc⟩
 | @snoc p x h hx hc ih =>
  obtain ⟨rank,h1,h2⟩:=ih
  refine ⟨fun y=>if y = x then p.length else rank y,fun y hy=>?_,fun c hcs hto=>?_⟩
  ·rw [List.length_append,List.length_singleton]
   dsimp only
   by_cases e:y = x
   ·rw [if_pos e]; omega
   ·rw [if_neg e]
    rcases List.mem_append.1 hy with hy | hy
    ·have:=h1 y hy; omega
    ·rw [List.mem_singleton] at hy; exact absurd hy e
  ·by_cases e:c.To = x
   ·have hf:=hc c hcs e
    have hne:c.From ≠ x:=fun q=>hx (q ▸ hf)
    refine ⟨by simp [hf],?_⟩
    simp only [if_neg hne,if_pos e]
    exact h1 _ hf
   ·have hto':c.To ∈ p:=by
     rcases List.mem_append.1 hto with q | q
     ·exact q
     ·rw [List.mem_singleton] at q; exact absurd q e
    obtain ⟨a,b⟩:=h2 c hcs hto'
    have hne:c.From ≠ x:=fun q=>hx (q ▸ a)
    refine ⟨by simp [a],?_⟩
    simp only [if_neg hne,if_neg e]
    exact b
def okB (p:List Str) (x:Str) (cs:List ApiContact):Bool:=cs.all fun c=>!decide (c.To = x) || decide (c.From ∈ p)
theorem okB_iff {p:List Str} {x:Str} {cs:List ApiContact}:okB p x cs = true ↔ ∀ c ∈ cs,c.To = x -> c.From ∈ p:=by
 simp only [okB,List.all_eq_true,Bool.or_eq_true,Bool.not_eq_true',decide_eq_false_iff_not,decide_eq_true_eq]
 exact ⟨fun h c hc e=>(h c hc).elim (fun q=>absurd e q) id,fun h c hc=>by by_cases e:c.To = x <;> simp [e,h c hc]⟩
section
variable (n:Nat) (r:ApiRung) (hs:r.Contacts.length <= 1000000) (all:List Str) (hal:all.length <= 3000000) (hn:2 * all.length + r.Contacts.length + 10 <= n) (p:List Str) (hp:p.length <= all.length)
include hs hal hn hp
theorem Zc0 (k:Nat) (x:Str) (hx:all[k]? = some x) (m:Int) (R:Int -> Int -> Option (List Str × Int)):∀ (q i:Nat) (b:Bool),i <= r.Contacts.length -> r.Contacts.length - i < q ->
 Z1U n r all p (k:Int) m R q b (i:Int) = if (b && okB p x (r.Contacts.drop i)) = true then R ((k + 1:Nat):Int) (k:Int) else R ((k + 1:Nat):Int) m
 | 0,i,b,h,hm=>absurd hm (Nat.not_lt_zero _)
 | q + 1,i,b,h,hm=>by
   have hk:=Zd hx
   rw [Z1U]
   by_cases hi:i < r.Contacts.length
   ·obtain ⟨c,hc⟩:=Z8 hi
    rw [if_pos (by simpa using hi),Z2,hc,Option.bind_some,Z2,hx,Option.bind_some,wrapN (by omega),Z9 hc,okB,List.all_cons]
    by_cases e:c.To = x
    ·rw [if_pos (by simpa using e),Z73 n p _ (by omega) (by omega),Option.bind_some]
     by_cases hf:c.From ∈ p
     ·rw [if_neg (by simp [hf]),Zc0 k x hx m R q (i + 1) b (by omega) (by omega)]
      simp [hf,okB]
     ·rw [if_pos (by simp [hf]),Zc0 k x hx m R q (i + 1) false (by omega) (by omega)]
      simp [hf,e]
    ·rw [if_neg (by simpa using e),Zc0 k x hx m R q (i + 1) b (by omega) (by omega)]
     simp [e,okB]
   ·rw [if_neg (by simpa using hi),List.drop_eq_nil_of_le (by omega),wrapN (by omega)]
    cases b <;> simp [okB]
theorem Zhz (R:List Str -> Option (List Str × Int)):∀ (q i:Nat),i <= all.length -> all.length - i < q ->
 (∃ (k:Nat) (x:Str),all[k]? = some x /\ x ∉ p /\ okB p x r.Contacts = true /\ ZI n r all p R q (i:Int) (-1) = Z1i all p R (k:Int)) \/
 ((∀ x ∈ all.drop i,x ∈ p \/ okB p x r.Contacts = false) /\ ZI n r all p R q (i:Int) (-1) = Z1i all p R (-1))
 | 0,i,h,hm=>absurd hm (Nat.not_lt_zero _)
 | q + 1,i,h,hm=>by
   rw [ZI]
   by_cases hi:i < all.length
   ·obtain ⟨x,hx⟩:=Z8 hi
    rw [if_pos (by simpa using hi),if_pos (by decide),Z2,hx,Option.bind_some,Z73 n p _ (by omega) (by omega),Option.bind_some,Z9 hx]
    have next:(x ∈ p \/ okB p x r.Contacts = false) -> (∃ (k:Nat) (x:Str),all[k]? = some x /\ x ∉ p /\ okB p x r.Contacts = true /\ ZI n r all p R q ((i + 1:Nat):Int) (-1) = Z1i all p R (k:Int)) \/
     ((∀ y ∈ x :: all.drop (i + 1),y ∈ p \/ okB p y r.Contacts = false) /\ ZI n r all p R q ((i + 1:Nat):Int) (-1) = Z1i all p R (-1)):=fun hx2=>by
     rcases Zhz R q (i + 1) (by omega) (by omega) with h1 | ⟨h1,h2⟩
     ·exact .inl h1
     ·refine .inr ⟨fun y hy=>?_,h2⟩
      rcases List.mem_cons.1 hy with rfl | hy
      ·exact hx2
      ·exact h1 y hy
    by_cases hxp:x ∈ p
    ·rw [if_pos (by simpa using hxp),wrapN (by omega)]
     exact next (.inl hxp)
    ·rw [if_neg (by simpa using hxp),show (0:Int) = ((0:Nat):Int) from rfl,Zc0 n r hs all hal hn p hp i x hx (-1) (ZI n r all p R q) n 0 true (by omega) (by omega),List.drop_zero,Bool.true_and]
     cases hok:okB p x r.Contacts with
     | true =>
       refine .inl ⟨i,x,hx,hxp,hok,?_⟩
       rw [if_pos rfl]
       obtain ⟨q',rfl⟩:∃ q',q = q' + 1:=⟨q - 1,by omega⟩
       rw [ZI]
       by_cases hj:i + 1 < all.length
       ·rw [if_pos (by simp; omega),if_neg (by simp)]
       ·rw [if_neg (by simp; omega)]
     | false =>
       rw [if_neg (by simp)]
       exact next (.inr hok)
   ·rw [if_neg (by simpa using hi)]
    refine .inr ⟨fun x hx=>?_,rfl⟩
    rw [List.drop_eq_nil_of_le (by omega)] at hx; cases hx
end
theorem Zhv (n:Nat) (r:ApiRung) (hs:r.Contacts.length <= 1000000) (all:List Str) (hal:all.length <= 3000000) (hn:2 * all.length + r.Contacts.length + 10 <= n) (hnd:all.Nodup) (hmem:∀ x,x ∈ all ↔ Z4C r.Contacts x):∀ (q:Nat) (p:List Str),all.length - p.length < q -> TopoL r.Contacts p -> (∀ x ∈ p,x ∈ all) ->
 ∃ s e,Z1f n r all q p = some (s,e) /\ ((e = 0 /\ Acyc r.Contacts) \/ (e = 12 /\ ¬ Acyc r.Contacts))
 | 0,p,hm,_,_=>absurd hm (Nat.not_lt_zero _)
 | q + 1,p,hm,ht,hsub=>by
   have hpl:=Zdg ht.nd hsub
   rw [Z1f]
   by_cases hl:p.length < all.length
   ·rw [if_pos (by simpa using hl),show (0:Int) = ((0:Nat):Int) from rfl]
    rcases Zhz n r hs all hal hn p hpl (Z1f n r all q) n 0 (by omega) (by omega) with ⟨k,x,h1,h2,h3,h4⟩ | ⟨h1,h2⟩
    ·rw [h4,Z1i,if_neg (by simp),Z2,h1,Option.bind_some,if_pos (by simp; omega),Option.bind_some]
     refine Zhv n r hs all hal hn hnd hmem q (p ++ [x]) (by simp; omega) (ht.snoc h2 (okB_iff.1 h3)) fun y hy=>?_
     rcases List.mem_append.1 hy with hy | hy
     ·exact hsub y hy
     ·rw [List.mem_singleton] at hy; subst hy; exact List.mem_of_getElem? h1
    ·rw [h2,Z1i,if_pos (by decide)]
     refine ⟨[],12,rfl,.inr ⟨rfl,fun ⟨rank,hrk⟩=>?_⟩⟩
     rw [List.drop_zero] at h1
     have hne:(all.filter fun x=>!decide (x ∈ p)) ≠ []:=fun e=>by
      rw [List.filter_eq_nil_iff] at e
      have:=Zdg hnd fun x hx=>by simpa using e x hx
      omega
     obtain ⟨x,hx,hmin⟩:=Zgj rank hne
     rw [List.mem_filter] at hx
     have hxp:x ∉ p:=by simpa using hx.2
     rcases h1 x hx.1 with q | q
     ·exact hxp q
     ·have:¬ ∀ c ∈ r.Contacts,c.To = x -> c.From ∈ p:=fun h=>by rw [okB_iff.2 h] at q; cases q
      obtain ⟨c,hc⟩:=Classical.not_forall.1 this
      obtain ⟨hcs,hc⟩:=Classical.not_imp.1 hc
      obtain ⟨hto,hfp⟩:=Classical.not_imp.1 hc
      have h5:=hmin c.From (List.mem_filter.2 ⟨(hmem _).2 (.inr (.inr ⟨c,hcs,.inl rfl⟩)),by simpa using hfp⟩)
      have h6:=hrk c hcs
      rw [hto] at h6
      omega
   ·rw [if_neg (by simpa using hl)]
    have hperm:=Z90 ht.nd hsub (by omega)
    obtain ⟨rank,_,hrk⟩:=ht.rank
    exact ⟨p,0,rfl,.inl ⟨rfl,rank,fun c hc=>(hrk c hc (hperm.symm.subset ((hmem _).2 (.inr (.inr ⟨c,hc,.inr rfl⟩))))).2⟩⟩
def lackL (all g:List Str):Nat:=(all.filter fun x=>!decide (x ∈ g)).length
theorem Zah {g g':List Str} (h:∀ x ∈ g,x ∈ g'):∀ all:List Str,lackL all g' <= lackL all g
 | []=>by simp [lackL]
 | x :: all=>by
   have ih:=Zah h all
   simp only [lackL,List.filter_cons] at ih ⊢
   by_cases h1:x ∈ g
   ·simp [h1,h x h1]; simpa using ih
   ·by_cases h2:x ∈ g'
    ·simp [h1,h2]; omega
    ·simp [h1,h2]; simpa using ih
theorem Zb5 {g:List Str} {y:Str} (hy:y ∉ g):∀ {all:List Str},y ∈ all -> lackL all (g ++ [y]) + 1 <= lackL all g
 | x :: all,h=>by
   have mono:=Zah (g:=g) (g':=g ++ [y]) (fun z hz=>by simp [hz]) all
   by_cases e:x = y
   ·subst e
    simp only [lackL,List.filter_cons] at mono ⊢
    simp [hy]; simp at mono; omega
   ·have hm:y ∈ all:=by
     rcases List.mem_cons.1 h with h | h
     ·exact absurd h.symm e
     ·exact h
    have ih:=Zb5 hy hm
    simp only [lackL,List.filter_cons] at ih ⊢
    by_cases h1:x ∈ g
    ·simp [h1]; simp at ih; omega
    ·simp [h1,e]; simp at ih; omega
def frB (b:Bool) (c:ApiContact):Str:=if b = true then c.To else c.From
def toB (b:Bool) (c:ApiContact):Str:=if b = true then c.From else c.To
def Z5x (b:Bool) (cs:List ApiContact) (g:List Str):Prop:=∀ c ∈ cs,frB b c ∈ g -> toB b c ∈ g
theorem Zb9 (n:Nat) (r:ApiRung) (hs:r.Contacts.length <= 1000000) (b:Bool) (P:Str -> Prop) (hP:∀ c ∈ r.Contacts,P (frB b c) -> P (toB b c)) (all:List Str) (hall:∀ c ∈ r.Contacts,toB b c ∈ all) (hlen:all.length <= 3000000) (p:Int) (R:Int -> List Str -> Option (List Str)) (g0:List Str) (hn:2 * all.length + 12 <= n /\ lackL all g0 + g0.length <= all.length + 1) :
 ∀ (q i:Nat) (g:List Str),i <= r.Contacts.length -> r.Contacts.length - i < q -> (∀ x ∈ g,P x) -> (∀ x ∈ g0,x ∈ g) -> lackL all g + g.length <= all.length + 1 -> (Z5x b r.Contacts g0 -> g = g0) ->
  ((g = g0 /\ ∀ (k:Nat) (c:ApiContact),k < i -> r.Contacts[k]? = some c -> frB b c ∈ g -> toB b c ∈ g) \/ lackL all g + 1 <= lackL all g0) ->
  ∃ g1,(∀ x ∈ g1,P x) /\ (∀ x ∈ g0,x ∈ g1) /\ lackL all g1 + g1.length <= all.length + 1 /\ (Z5x b r.Contacts g0 -> g1 = g0) /\ (Z5x b r.Contacts g1 \/ lackL all g1 + 1 <= lackL all g0) /\
    Z1C n r b p R q (i:Int) g = R (IntKind.i64.wrap (p + 1)) g1
 | 0,i,g,h,hm,_,_,_,_,_=>absurd hm (Nat.not_lt_zero _)
 | q + 1,i,g,h,hm,h1,h2,h3,h4,h5=>by
   rw [Z1C]
   have ih:=fun g'=>Zb9 n r hs b P hP all hall hlen p R g0 hn q (i + 1) g'
   by_cases hi:i < r.Contacts.length
   ·obtain ⟨c,hc⟩:=Z8 hi
    have mc:=List.mem_of_getElem? hc
    have skip:(frB b c ∈ g -> toB b c ∈ g) -> ∃ g1,(∀ x ∈ g1,P x) /\ (∀ x ∈ g0,x ∈ g1) /\ lackL all g1 + g1.length <= all.length + 1 /\ (Z5x b r.Contacts g0 -> g1 = g0) /\ (Z5x b r.Contacts g1 \/ lackL all g1 + 1 <= lackL all g0) /\ Z1C n r b p R q ((i + 1:Nat):Int) g = R (IntKind.i64.wrap (p + 1)) g1:=fun hsk=>by
     refine ih g (by omega) (by omega) h1 h2 h3 h4 (h5.imp (fun ⟨e,a⟩=>⟨e,fun k d hk hd hf=>?_⟩) id)
     rcases Nat.lt_or_ge k i with g1 | g1
     ·exact a k d g1 hd hf
     ·have:k = i:=by omega
      subst this; rw [hc] at hd; cases hd; exact hsk hf
    have hJ:∀ a z,a = frB b c -> z = toB b c -> ∃ g1,(∀ x ∈ g1,P x) /\ (∀ x ∈ g0,x ∈ g1) /\ lackL all g1 + g1.length <= all.length + 1 /\ (Z5x b r.Contacts g0 -> g1 = g0) /\ (Z5x b r.Contacts g1 \/ lackL all g1 + 1 <= lackL all g0) /\ Z3F n (i:Int) g (Z1C n r b p R q) a z = R (IntKind.i64.wrap (p + 1)) g1:=by
     rintro a z rfl rfl
     rw [Z3F,Z73 n g _ (by omega) (by omega),Option.bind_some,wrapN (by omega)]
     by_cases hf:frB b c ∈ g
     ·rw [if_pos (by simp [hf]),Z73 n g _ (by omega) (by omega),Option.bind_some]
      by_cases ht:toB b c ∈ g
      ·rw [if_neg (by simp [ht])]
       exact skip fun _=>ht
      ·rw [if_pos (by simp [ht]),if_pos (by simp; omega),Option.bind_some]
       have hl:=Zb5 ht (hall c mc)
       have hlm:=Zah h2 all
       refine ih _ (by omega) (by omega) (fun x hx=>?_) (fun x hx=>by simp [h2 x hx]) (by simp; omega) (fun hcl=>?_) (.inr (by omega))
       ·rcases List.mem_append.1 hx with hx | hx
        ·exact h1 x hx
        ·rw [List.mem_singleton] at hx; subst hx
         exact hP c mc (h1 _ hf)
       ·have e:=h4 hcl
        subst e
        exact absurd (hcl c mc hf) ht
     ·rw [if_neg (by simp [hf])]
      exact skip fun h=>absurd h hf
    rw [if_pos (by simpa using hi),Z2,hc,Option.bind_some]
    cases b with
    | true=>rw [if_pos rfl]; exact hJ _ _ rfl rfl
    | false=>rw [if_neg (by simp)]; exact hJ _ _ rfl rfl
   ·have hie:i = r.Contacts.length:=by omega
    rw [if_neg (by simpa using hi)]
    refine ⟨g,h1,h2,h3,h4,h5.imp (fun ⟨e,a⟩=>fun d hd hf=>?_) id,rfl⟩
    obtain ⟨k,hk⟩:=List.getElem?_of_mem hd
    exact a k d (by have:=Zd hk; omega) hk hf
theorem ZcR (n:Nat) (all g:List Str) (hall:all.length <= 3000000) (hg:g.length <= 3000010) (hn:g.length < n):∀ (q i:Nat) (acc:List Str),i <= all.length -> all.length - i < q -> acc.length <= i -> Z2O n all g q acc (i:Int) = some (acc ++ (all.drop i).filter fun x=>decide (x ∈ g))
 | 0,i,acc,h,hm,_=>absurd hm (Nat.not_lt_zero _)
 | q + 1,i,acc,h,hm,ha=>by
   rw [Z2O]
   by_cases hi:i < all.length
   ·obtain ⟨x,hx⟩:=Z8 hi
    rw [if_pos (by simpa using hi),Z2,hx,Option.bind_some,Z73 n g _ (by omega) (by omega),Option.bind_some,wrapN (by omega),Z9 hx,List.filter_cons]
    by_cases hm':x ∈ g
    ·rw [if_pos (by simp [hm']),if_pos (by simp; omega),Option.bind_some,ZcR n all g hall hg hn q (i + 1) _ (by omega) (by omega) (by simp; omega)]; simp [hm']
    ·rw [if_neg (by simp [hm']),ZcR n all g hall hg hn q (i + 1) _ (by omega) (by omega) (by omega)]; simp [hm']
   ·rw [if_neg (by simpa using hi),List.drop_eq_nil_of_le (by omega)]; simp
theorem Z82 (n:Nat) (r:ApiRung) (hs:r.Contacts.length <= 1000000) (b:Bool) (P:Str -> Prop) (hP:∀ c ∈ r.Contacts,P (frB b c) -> P (toB b c)) (st:Str) (all:List Str) (hall:∀ c ∈ r.Contacts,toB b c ∈ all) (hlen:all.length <= 3000000) (hn:2 * all.length + r.Contacts.length + 20 <= n):∀ (q p:Nat) (g:List Str),p <= all.length -> all.length - p < q ->
 (∀ x ∈ g,P x) -> st ∈ g -> lackL all g + g.length <= all.length + 1 -> (Z5x b r.Contacts g \/ lackL all g + p + 1 <= all.length) ->
 ∃ g',Z1Z n r b all q (p:Int) g = some (all.filter fun x=>decide (x ∈ g')) /\ (∀ x ∈ g',P x) /\ Z5x b r.Contacts g' /\ st ∈ g'
 | 0,p,g,h,hm,_,_,_,_=>absurd hm (Nat.not_lt_zero _)
 | q + 1,p,g,h,hm,h1,h2,h3,h4=>by
   rw [Z1Z]
   by_cases hp:p < all.length
   ·rw [if_pos (by simpa using hp),show (0:Int) = ((0:Nat):Int) from rfl]
    obtain ⟨g1,a1,a2,a3,a4,a5,e⟩:=Zb9 n r hs b P hP all hall hlen (p:Int) (Z1Z n r b all q) g ⟨by omega,h3⟩ n 0 g (by omega) (by omega) h1 (fun _ h=>h) h3 (fun _=>rfl) (.inl ⟨rfl,fun k c hk=>absurd hk (Nat.not_lt_zero _)⟩)
    rw [e,wrapN (by omega)]
    refine Z82 n r hs b P hP st all hall hlen hn q (p + 1) g1 (by omega) (by omega) a1 (a2 _ h2) a3 ?_
    rcases h4 with h4 | h4
    ·rw [a4 h4]; exact .inl h4
    ·rcases a5 with a5 | a5
     ·exact .inl a5
     ·exact .inr (by omega)
   ·have hpe:p = all.length:=by omega
    rw [if_neg (by simpa using hp),Z5F,show (0:Int) = ((0:Nat):Int) from rfl,ZcR n all g hlen (by omega) (by omega) n 0 [] (by omega) (by omega) (by simp)]
    refine ⟨g,by simp,h1,?_,h2⟩
    rcases h4 with h4 | h4
    ·exact h4
    ·omega
theorem ZeY {all:List Str} {y:Str} (hy:y ∈ all):lackL all [y] + 1 <= all.length:=by
 have:=Zb5 (g:=[]) (y:=y) (by simp) hy
 have h0:lackL all [] <= all.length:=by unfold lackL; exact List.length_filter_le _ _
 rw [List.nil_append] at this
 omega
theorem ZbM (n:Nat) (r:ApiRung) (hs:r.Contacts.length <= 100000) (b:Bool) (hn:10 * r.Contacts.length + 100 <= n) (st:Str) (hst:Z4C r.Contacts st) (P:Str -> Prop) (hP0:P st) (hP:∀ c ∈ r.Contacts,P (frB b c) -> P (toB b c)) (hmin:∀ g:List Str,Z5x b r.Contacts g -> st ∈ g -> ∀ x,P x -> x ∈ g) :
 ∃ l,Z2q n r st b = some l /\ ∀ x,x ∈ l ↔ Z4C r.Contacts x /\ P x:=by
 obtain ⟨all,h1,h2,h3,h4⟩:=ZbG n r (by omega) (by omega)
 have hm:st ∈ all:=(h3 st).2 hst
 have hall:∀ c ∈ r.Contacts,toB b c ∈ all:=fun c hc=>(h3 _).2 (.inr (.inr ⟨c,hc,by cases b <;> simp [toB]⟩))
 have hl:=ZeY hm
 obtain ⟨g',a1,a2,a3,a4⟩:=Z82 n r (by omega) b P hP st all hall (by omega) (by omega) n 0 [st] (by omega) (by omega) (fun x hx=>by rw [List.mem_singleton] at hx; subst hx; exact hP0) (by simp) (by simp; omega) (.inr (by omega))
 rw [show ((0:Nat):Int) = 0 from rfl] at a1
 refine ⟨all.filter fun x=>decide (x ∈ g'),?_,fun x=>?_⟩
 ·rw [Z2q,h1,Option.bind_some,Z73 n all _ (by omega) (by omega),Option.bind_some,if_neg (by simp [hm]),Option.bind_some,a1]
 ·rw [List.mem_filter,h3]
  simp only [decide_eq_true_eq]
  exact ⟨fun ⟨q1,q2⟩=>⟨q1,a2 x q2⟩,fun ⟨q1,q2⟩=>⟨q1,hmin g' a3 a4 x q2⟩⟩
theorem ZbR (n:Nat) (all a b:List Str) (hal:all.length <= 1000000) (hl:a.length <= 1000000 /\ b.length <= 1000000) (hn:1000010 <= n):∀ (q i:Nat) (acc:List Str),i <= all.length -> all.length - i < q -> acc.length <= i -> ∃ l,Z1o n all a b q acc (i:Int) = some l /\ (l = [] ↔ acc = [] /\ ∀ x ∈ all.drop i,x ∈ a /\ x ∈ b)
 | 0,i,acc,h,hm,_=>absurd hm (Nat.not_lt_zero _)
 | q + 1,i,acc,h,hm,ha=>by
   rw [Z1o]
   by_cases hi:i < all.length
   ·obtain ⟨x,hx⟩:=Z8 hi
    rw [if_pos (by simpa using hi),Z2,hx,Option.bind_some,Zgs n a _ (by omega) (by omega),Option.bind_some,Z9 hx,wrapN (by omega)]
    have add:¬ (x ∈ a /\ x ∈ b) -> ∃ l,(if acc.length + [x].length <= 1000000000 then (some (acc ++ [x])).bind fun l1=>Z1o n all a b q l1 ((i + 1:Nat):Int) else none) = some l /\ (l = [] ↔ acc = [] /\ ∀ y ∈ x :: all.drop (i + 1),y ∈ a /\ y ∈ b):=fun hx2=>by
     rw [if_pos (by simp; omega),Option.bind_some]
     obtain ⟨l,q1,q2⟩:=ZbR n all a b hal hl hn q (i + 1) (acc ++ [x]) (by omega) (by omega) (by simp; omega)
     refine ⟨l,q1,⟨fun e=>?_,fun ⟨_,e⟩=>absurd (e x (by simp)) hx2⟩⟩
     have:=(q2.1 e).1
     simp at this
    by_cases h1:x ∈ a
    ·rw [if_neg (by simp [h1]),Zgs n b _ (by omega) (by omega),Option.bind_some]
     by_cases h2:x ∈ b
     ·rw [if_neg (by simp [h2])]
      obtain ⟨l,q1,q2⟩:=ZbR n all a b hal hl hn q (i + 1) acc (by omega) (by omega) (by omega)
      refine ⟨l,q1,q2.trans ⟨fun ⟨e1,e2⟩=>⟨e1,fun y hy=>?_⟩,fun ⟨e1,e2⟩=>⟨e1,fun y hy=>e2 y (by simp [hy])⟩⟩⟩
      rcases List.mem_cons.1 hy with rfl | hy
      ·exact ⟨h1,h2⟩
      ·exact e2 y hy
     ·rw [if_pos (by simp [h2])]
      exact add fun q=>h2 q.2
    ·rw [if_pos (by simp [h1])]
     exact add fun q=>h1 q.1
   ·rw [if_neg (by simpa using hi),List.drop_eq_nil_of_le (by omega)]
    exact ⟨acc,rfl,by simp⟩
theorem ZkX (n:Nat) (r:ApiRung) (hs:r.Contacts.length <= 1000) (hn:2000000 <= n):Z6u n r = some (flowS r.Contacts):=by
 rw [Z6u]
 by_cases h0:r.Contacts = []
 ·rw [flowS,if_pos h0,if_pos (by simp [h0])]
 rw [flowS,if_neg h0,if_neg (by simpa using h0)]
 obtain ⟨all,h1,h2,h3,h4⟩:=ZbG n r (by omega) (by omega)
 obtain ⟨s,e,t1,t2⟩:=Zhv n r (by omega) all (by omega) (by omega) h2 h3 n [] (by simp; omega) .nil (fun x hx=>by simp at hx)
 rw [Z67,h1,Option.bind_some,t1,Option.bind_some]
 dsimp only
 rcases t2 with ⟨rfl,t2⟩ | ⟨rfl,t2⟩
 ·rw [if_neg (by simp),if_neg (show ¬ ¬ Acyc r.Contacts from fun e=>e t2)]
  obtain ⟨a,a1,a2⟩:=ZbM n r (by omega) false (by omega) strLL (.inl rfl) (RchReachable r.Contacts strLL) .refl (fun c hc h=>.step hc h) (fun g hg hst x hx=>by
   induction hx with
   | refl=>exact hst
   | step h1 _ ih=>exact hg _ h1 ih)
  obtain ⟨b,b1,b2⟩:=ZbM n r (by omega) true (by omega) strRR (.inr (.inl rfl)) (RchAncestors r.Contacts strRR) .refl (fun c hc h=>.step hc h) (fun g hg hst x hx=>by
   induction hx with
   | refl=>exact hst
   | step h1 _ ih=>exact hg _ h1 ih)
  have hlen:∀ l:List Str,Z2q n r strLL false = some l \/ Z2q n r strRR true = some l -> l.length <= 1000000:=fun l hl=>by
   have key:∀ st b,Z4C r.Contacts st -> Z2q n r st b = some l -> l.length <= 1000000:=fun st b hst hl=>by
    have hm:st ∈ all:=(h3 st).2 hst
    have hall:∀ c ∈ r.Contacts,toB b c ∈ all:=fun c hc=>(h3 _).2 (.inr (.inr ⟨c,hc,by cases b <;> simp [toB]⟩))
    have hlk:=ZeY hm
    obtain ⟨g',a1,_⟩:=Z82 n r (by omega) b (fun _=>True) (fun _ _ _=>trivial) st all hall (by omega) (by omega) n 0 [st] (by omega) (by omega) (fun _ _=>trivial) (by simp) (by simp; omega) (.inr (by omega))
    rw [show ((0:Nat):Int) = 0 from rfl] at a1
    rw [Z2q,h1,Option.bind_some,Z73 n all _ (by omega) (by omega),Option.bind_some,if_neg (by simp [hm]),Option.bind_some,a1,Option.some.injEq] at hl
    subst hl
    have:=List.length_filter_le (fun x=>decide (x ∈ g')) all
    omega
   rcases hl with hl | hl
   ·exact key strLL false (.inl rfl) hl
   ·exact key strRR true (.inr (.inl rfl)) hl
  obtain ⟨l,d1,d2⟩:=ZbR n all a b (by omega) ⟨hlen a (.inl a1),hlen b (.inr b1)⟩ (by omega) n 0 [] (by omega) (by omega) (by simp)
  rw [show ((0:Nat):Int) = 0 from rfl] at d1
  rw [Z5E,h1,Option.bind_some,Z5J,show (⟨#[76]⟩:Str) = strLL from rfl,a1,Option.bind_some,Option.bind_some,Z5G,show (⟨#[82]⟩:Str) = strRR from rfl,b1,Option.bind_some,Option.bind_some,d1,Option.bind_some]
  have hiff:l = [] ↔ ¬ ∃ x,Z4C r.Contacts x /\ ¬ (RchReachable r.Contacts strLL x /\ RchAncestors r.Contacts strRR x):=by
   rw [d2,List.drop_zero]
   constructor
   ·rintro ⟨_,h⟩ ⟨x,q1,q2⟩
    obtain ⟨p1,p2⟩:=h x ((h3 x).2 q1)
    exact q2 ⟨((a2 x).1 p1).2,((b2 x).1 p2).2⟩
   ·intro h
    refine ⟨rfl,fun x hx=>?_⟩
    have hx':=(h3 x).1 hx
    have:=Classical.not_not.1 fun q=>h ⟨x,hx',q⟩
    exact ⟨(a2 x).2 ⟨hx',this.1⟩,(b2 x).2 ⟨hx',this.2⟩⟩
  by_cases he:l = []
  ·rw [if_neg (by simp [he]),if_neg (hiff.1 he)]
  ·have hp:0 < l.length:=List.length_pos_iff.2 he
   rw [if_pos (by simpa using hp),if_pos (Classical.not_not.1 fun q=>he (hiff.2 q))]
 ·rw [if_pos (by simp),if_pos (show ¬ Acyc r.Contacts from t2)]
end Go.G

/- What the compiler of a ladder answers. No law is proved here. -/
import Derived.Test.YtaebdeidbibfkaaDoorJLawM12
import Derived.Test.YtaebdeidbibfkaaDoorJGd
import Derived.Test.YtaebdeidbibfkaaDoorJGpc
import Derived.Test.YtaebdeidbibfkaaDoorJGwt
set_option linter.unusedSimpArgs false
set_option linter.unusedVariables false
set_option linter.unusedSectionVars false
namespace Go.G
open Go.Av
structure Chk (r : ApiRung) : Prop where
  kinds : KindsOk r.Contacts
  few : r.Contacts.length ≤ 256
  coils : r.Coils.any badC = false
  cfew : r.Coils.length ≤ 16
theorem partS_kind {s : ApiSize} {k : Int} {a : ApiAddr} (h : Pc.partS s k a = 0) : 0 ≤ k ∧ k < 4 := by
  unfold Pc.partS at h
  by_cases hk : k < 0 ∨ 4 ≤ k
  · rw [if_pos hk] at h; cases h
  · omega
theorem contactsC_kind {s : ApiSize} : ∀ {cs : List ApiContact}, Pc.contactsC s cs = 0 → KindsOk cs
  | [], _ => fun c hc => by cases hc
  | c :: cs, h => by
    rw [Pc.contactsC] at h
    by_cases hp : Pc.partS s c.Kind c.A = 0
    · rw [if_neg (by simpa using hp)] at h
      split at h
      · cases h
      · split at h
        · cases h
        · intro d hd
          rcases List.mem_cons.1 hd with rfl | hd
          · exact partS_kind hp
          · exact contactsC_kind h d hd
    · rw [if_pos hp] at h; exact absurd h hp
theorem coilsC_kind {s : ApiSize} : ∀ {cs : List ApiCoil}, Pc.coilsC s cs = 0 → cs.any badC = false
  | [], _ => rfl
  | c :: cs, h => by
    rw [Pc.coilsC] at h
    by_cases hp : Pc.partS s c.Kind c.A = 0
    · rw [if_neg (by simpa using hp)] at h
      split at h
      · cases h
      · have := partS_kind hp
        rw [List.any_cons, coilsC_kind h, Bool.or_false, badC]
        simp; omega
    · rw [if_pos hp] at h; exact absurd h hp
theorem chk_of {s : ApiSize} {b : List ApiRung} {r : ApiRung} (h : Pc.rungC s b r = 0) : Chk r := by
  have h1 : Pc.restC s r = 0 := by
    unfold Pc.rungC at h
    split at h
    · exact h
    · split at h
      · cases h
      · split at h
        · cases h
        · exact h
  unfold Pc.restC at h1
  by_cases h2 : Pc.contactsC2 s r = 0
  · rw [if_neg (by simpa using h2)] at h1
    by_cases h3 : Pc.coilsC2 s r = 0
    · unfold Pc.contactsC2 at h2
      unfold Pc.coilsC2 at h3
      split at h2
      · cases h2
      · split at h3
        · cases h3
        · exact ⟨contactsC_kind h2, by omega, coilsC_kind h3, by omega⟩
    · rw [if_pos h3] at h1; exact absurd h1 h3
  · rw [if_pos h2] at h1; exact absurd h1 h2
theorem rungsC_all {s : ApiSize} {L : List ApiRung} : ∀ (rs : List ApiRung) (i : Nat), (∀ x, Pc.rungsC s L rs i = some x → x.2 ≠ 0) ∧ (Pc.rungsC s L rs i = none → ∀ (k : Nat) r, rs[k]? = some r → Pc.rungC s (L.take (i + k)) r = 0)
  | [], i => ⟨fun x h => (by cases h), fun _ k r h => (by simp at h)⟩
  | r :: rs, i => by
    obtain ⟨h1, h2⟩ := rungsC_all (s := s) (L := L) rs (i + 1)
    rw [Pc.rungsC]
    by_cases h : Pc.rungC s (L.take i) r = 0
    · rw [if_neg (by simpa using h)]
      refine ⟨h1, fun hn k q hk => ?_⟩
      cases k with
      | zero => simp at hk; subst hk; exact h
      | succ k =>
        have := h2 hn k q (by simpa using hk)
        rw [show i + (k + 1) = i + 1 + k by omega]; exact this
    · rw [if_pos h]
      refine ⟨fun x hx => ?_, fun hn => by cases hn⟩
      cases hx; exact h
theorem checked {l : ApiLadder} (h : (Pc.checkS l).2 = 0) : l.Rungs.length ≤ 64 ∧ ∀ (i : Nat) r, l.Rungs[i]? = some r → Pc.rungC (Pc.sizesOf l) (l.Rungs.take i) r = 0 := by
  unfold Pc.checkS at h
  split at h
  · cases h
  · split at h
    · cases h
    · obtain ⟨h1, h2⟩ := rungsC_all (s := Pc.sizesOf l) (L := l.Rungs) l.Rungs 0
      cases hc : Pc.rungsC (Pc.sizesOf l) l.Rungs l.Rungs 0 with
      | some x => rw [hc] at h; exact absurd h (h1 x hc)
      | none => exact ⟨by omega, fun i r hr => by have := h2 hc i r hr; rwa [Nat.zero_add] at this⟩
def edgeS (cs : List ApiContact) : List Bool := cs.map seesS
theorem set_mid2 {α : Type} (acc : List α) (m : Nat) (z v : α) (hm : 0 < m) : (acc ++ List.replicate m z).set acc.length v = (acc ++ [v]) ++ List.replicate (m - 1) z := by
  obtain ⟨k, rfl⟩ : ∃ k, m = k + 1 := ⟨m - 1, by omega⟩
  rw [List.set_append_right _ _ (Nat.le_refl _)]; simp [List.replicate_succ]
theorem con_loop (n : Nat) (r : ApiRung) (slot : Int) (t : TreeTree) (hs : r.Contacts.length ≤ 1000000) : ∀ (m i : Nat) (pre : List Bool), pre = (edgeS r.Contacts).take i → i ≤ r.Contacts.length → r.Contacts.length - i < m →
    codegen_contacts_L2 n r slot t m (i : Int) (pre ++ List.replicate (r.Contacts.length - i) false) = codegen_contacts_J1 n r slot t (edgeS r.Contacts)
  | 0, i, pre, hp, hi, hm => absurd hm (Nat.not_lt_zero _)
  | m + 1, i, pre, hp, hi, hm => by
    rw [codegen_contacts_L2]
    have hpl : pre.length = i := by rw [hp, List.length_take, edgeS, List.length_map]; omega
    by_cases h : i < r.Contacts.length
    · obtain ⟨x, hx⟩ := get_ex h
      have hat : atI (pre ++ List.replicate (r.Contacts.length - i) false) (i : Int) = some false := by
        rw [atI_nat, List.getElem?_append_right (by omega), hpl, Nat.sub_self, List.getElem?_replicate, if_pos (by omega)]
      have hset : (pre ++ List.replicate (r.Contacts.length - i) false).set i (seesS x) = (pre ++ [seesS x]) ++ List.replicate (r.Contacts.length - (i + 1)) false := by
        have := set_mid2 pre (r.Contacts.length - i) false (seesS x) (by omega)
        rw [hpl] at this
        rw [this, show r.Contacts.length - i - 1 = r.Contacts.length - (i + 1) by omega]
      rw [if_pos (by simpa using h), atI_nat, hx, Option.bind_some, codegen_sees_eq, Option.bind_some, hat, Option.bind_some, Option.bind_some, Int.toNat_natCast, hset, wrapN (by omega)]
      refine con_loop n r slot t hs m (i + 1) _ ?_ (by omega) (by omega)
      rw [hp, List.take_add_one]; simp [edgeS, hx]
    · rw [if_neg (by simpa using h), show r.Contacts.length - i = 0 by omega, List.replicate_zero, List.append_nil, hp, List.take_of_length_le (by rw [edgeS, List.length_map]; omega)]
structure TreeOk (r : ApiRung) (t : TreeTree) : Prop where
  ok : Ok (r.Contacts.length : Int) t
  nd : (lv t).Nodup
  len : (lv t).length = r.Contacts.length
  sz : szT t ≤ 2 * r.Contacts.length
def contS (t : TreeTree) (e : Int) (r : ApiRung) (slot : Int) : List ApiIns × Int :=
  if e ≠ 0 then ([], e) else if 64 < dp (edgeS r.Contacts) t then ([], 16) else (layS r.Contacts (slotsS r.Contacts slot) t, 0)
theorem contacts_eq2 (n : Nat) (hn : 1000000 ≤ n) (r : ApiRung) (hc : Chk r) {t : TreeTree} {e : Int} (hr : reduce_Reduce n r = some (t, e)) (ht : e = 0 → TreeOk r t) (slot : Int) (h0 : 0 ≤ slot) (h1 : slot ≤ 16384) : codegen_contacts n r slot = some (contS t e r slot) := by
  have hf := hc.few
  rw [codegen_contacts, hr, Option.bind_some, contS]
  by_cases he : e = 0
  · have hk := ht he
    have hsz := hk.sz
    have hchk : checkS t (r.Contacts.length : Int) = 0 := (checkS_iff t r.Contacts.length).2 ⟨hk.ok, hk.nd, hk.len⟩
    have hlp := con_loop n r slot t (by omega) n 0 [] rfl (by omega) (by omega)
    rw [List.nil_append, Nat.sub_zero, show ((0 : Nat) : Int) = 0 from rfl] at hlp
    have hel : (edgeS r.Contacts).length = r.Contacts.length := by rw [edgeS, List.length_map]
    have hbad : r.Contacts.any badK = false := List.any_eq_false.2 fun c hcm => by
      have := hc.kinds c hcm
      simp [badK]; omega
    dsimp only
    rw [if_neg (by simp [he]), if_pos ⟨by omega, by omega, by omega⟩, Option.bind_some, hlp, codegen_contacts_J1, tree_StackDepth_eq t _ n (by omega) (by omega), hel, if_pos hchk, Option.bind_some, if_neg (show ¬ (e ≠ 0) by simpa using he)]
    dsimp only
    rw [if_neg (by simp)]
    by_cases hd : 64 < dp (edgeS r.Contacts) t
    · rw [if_pos (by simp; omega), if_pos hd]
    · rw [if_neg (by simp; omega), if_neg hd, codegen_Tree_eq n r t slot (by omega) (by omega) (by omega) (by omega), treeS, if_neg (by simpa using hchk), hbad, if_neg (by simp), if_neg (by omega)]
      rfl
  · dsimp only
    rw [if_pos (by simpa using he), if_pos he]
theorem Reduce_good (n : Nat) (r : ApiRung) (hl : r.Contacts.length ≤ 1000) (hn : 1000000 ≤ n) : ∃ t e, reduce_Reduce n r = some (t, e) ∧ (e = 0 → TreeOk r t) := by
  have hf := flow_exact n r (by omega) (by omega)
  have hr : flowS r.Contacts = 0 → ∃ rank : Str → Nat, ∀ c ∈ r.Contacts, rank c.From < rank c.To := flow_rank
  rcases Reduce_ex n r (by omega) (by omega) hf hr with ⟨h1, h2⟩ | ⟨h1, l, h2, h3⟩
  · exact ⟨_, _, h2, fun e => absurd e h1⟩
  · obtain ⟨rank, hrk⟩ := hr h1
    have hi := (RInv.start r.Contacts rank hrk).reds h2
    rw [redS_canon] at h3
    match l, hi, h3 with
    | [], _, h3 => exact ⟨_, _, h3, fun e => by cases e⟩
    | x :: y :: l, _, h3 => exact ⟨_, _, h3, fun e => by cases e⟩
    | [x], hi, h3 =>
      have e : canon [x] = [canE x] := rfl
      rw [e, redC] at h3
      split at h3
      · refine ⟨_, _, h3, fun _ => ?_⟩
        have g1 : Good (r.Contacts.length : Int) x.t_ := ⟨hi.ok x (by simp), by have := hi.lv; simpa using this⟩
        have g2 : (lv x.t_).length = r.Contacts.length := by have := hi.all; simpa using this
        refine ⟨sortedS_ok g1.ok, (sortedS_lv x.t_).nodup_iff.2 g1.nd, ?_, ?_⟩
        · show (lv (sortedS x.t_)).length = _
          rw [(sortedS_lv x.t_).length_eq]; exact g2
        · show szT (sortedS x.t_) ≤ _
          rw [sortedS_sz]
          have := hi.sz
          simp at this
          omega
      · exact ⟨_, _, h3, fun e => by cases e⟩
def rdT (n : Nat) (r : ApiRung) : TreeTree × Int := (reduce_Reduce n r).getD (.mk 0 0 [], 0)
theorem rdT_eq (n : Nat) (r : ApiRung) (hl : r.Contacts.length ≤ 1000) (hn : 1000000 ≤ n) : reduce_Reduce n r = some (rdT n r) ∧ ((rdT n r).2 = 0 → TreeOk r (rdT n r).1) := by
  obtain ⟨t, e, h1, h2⟩ := Reduce_good n r hl hn
  rw [rdT, h1]
  exact ⟨rfl, h2⟩
def cE (n : Nat) (r : ApiRung) (E : Int) : List ApiIns × Int := contS (rdT n r).1 (rdT n r).2 r E
theorem cE_eq (n : Nat) (hn : 1000000 ≤ n) (r : ApiRung) (hc : Chk r) (E : Int) (h0 : 0 ≤ E) (h1 : E ≤ 16384) : codegen_contacts n r E = some (cE n r E) := by
  have hf := hc.few
  obtain ⟨q1, q2⟩ := rdT_eq n r (by omega) hn
  exact contacts_eq2 n hn r hc q1 q2 E h0 h1
theorem cE_len (n : Nat) (hn : 1000000 ≤ n) (r : ApiRung) (hc : Chk r) (E : Int) : (cE n r E).1.length ≤ 1600 := by
  have hf := hc.few
  obtain ⟨q1, q2⟩ := rdT_eq n r (by omega) hn
  rw [cE, contS]
  split
  · simp
  · rename_i he
    split
    · simp
    · have := layS_len r.Contacts (slotsS r.Contacts E) (rdT n r).1
      have := (q2 (by simpa using he)).sz
      show (layS r.Contacts (slotsS r.Contacts E) (rdT n r).1).length ≤ 1600
      omega
theorem coilsS_one (cs : List ApiCoil) (h : cs.any badC = false) : coilsS cs [] = (cs.map fun c => (⟨11 + c.Kind, c.A, 0⟩ : ApiIns), 0) := by
  rw [coilsS, h, if_neg (by simp), List.nil_append]
def noS : Str := ⟨#[]⟩
def jm (r : ApiRung) : List ApiIns := if r.Jump = noS then [] else [⟨15, ⟨0, 0⟩, 0⟩]
abbrev RP := ApiRung × Nat × Nat
def wS (n : Nat) : List ApiRung → Nat → Int → List ApiIns → List RP → (Nat × Int) ⊕ (Int × List ApiIns × List RP)
  | [], _, E, code, R => .inr (E, code, R)
  | r :: rs, i, E, code, R => if (cE n r E).2 ≠ 0 then .inl (i, (cE n r E).2) else
      wS n rs (i + 1) (E + (Pc.edges r.Contacts : Nat)) (code ++ (cE n r E).1 ++ (coilsS r.Coils []).1 ++ jm r) (R ++ [(r, code.length, (code ++ (cE n r E).1 ++ (coilsS r.Coils []).1).length)])
def startsR (R : List RP) : List Int := R.map fun x => (x.2.1 : Int)
def jsR (R : List RP) : List (Int × Str) := (R.filter fun x => decide (x.1.Jump ≠ noS)).map fun x => ((x.2.2 : Int), x.1.Jump)
def labR (R : List RP) (s : Str) : Int := R.foldl (fun a x => if x.1.Label = s then (x.2.1 : Int) else a) 0
theorem mGet_put {α β : Type} [BEq α] [LawfulBEq α] (k : α) (v : β) (s : α) : ∀ m : List (α × β), mGet (mPut m k v) s = if s == k then some v else mGet m s
  | [] => by simp only [mPut, mGet]
  | p :: m => by
    rw [mPut]
    by_cases h : k = p.1
    · rw [if_pos (by simpa using h), mGet, mGet]
      by_cases hs : s = k
      · subst hs; simp
      · have : ¬ s = p.1 := fun e => hs (e.trans h.symm)
        simp [hs, this]
    · rw [if_neg (by simpa using h), mGet, mGet, mGet_put k v s m]
      by_cases hs : s = p.1
      · have : ¬ s = k := fun e => h (e ▸ hs)
        simp [hs, Ne.symm h]
      · simp [hs]
theorem mPut_new {α β : Type} [BEq α] [LawfulBEq α] (k : α) (v : β) : ∀ m : List (α × β), (∀ p ∈ m, p.1 ≠ k) → mPut m k v = m ++ [(k, v)]
  | [], _ => rfl
  | p :: m, h => by
    rw [mPut, if_neg (by simpa using (h p (by simp)).symm), mPut_new k v m fun q hq => h q (by simp [hq])]
    rfl
theorem labR_snoc (R : List RP) (x : RP) (s : Str) : labR (R ++ [x]) s = if x.1.Label = s then (x.2.1 : Int) else labR R s := by
  rw [labR, labR, List.foldl_append]; rfl
theorem jsR_snoc (R : List RP) (x : RP) : jsR (R ++ [x]) = if x.1.Jump = noS then jsR R else jsR R ++ [((x.2.2 : Int), x.1.Jump)] := by
  rw [jsR, List.filter_append, List.map_append]
  by_cases h : x.1.Jump = noS
  · simp [h, jsR]
  · simp [h, jsR]
theorem jsR_mem {R : List RP} {p : Int × Str} (h : p ∈ jsR R) : ∃ x ∈ R, x.1.Jump ≠ noS ∧ p = ((x.2.2 : Int), x.1.Jump) := by
  rw [jsR, List.mem_map] at h
  obtain ⟨x, hx, rfl⟩ := h
  rw [List.mem_filter] at hx
  exact ⟨x, hx.1, by simpa using hx.2, rfl⟩
theorem jsR_of {R : List RP} {x : RP} (hx : x ∈ R) (hj : x.1.Jump ≠ noS) : ((x.2.2 : Int), x.1.Jump) ∈ jsR R := by
  rw [jsR, List.mem_map]
  exact ⟨x, List.mem_filter.2 ⟨hx, by simpa using hj⟩, rfl⟩
theorem whole_L4 (n : Nat) (hn : 1000000 ≤ n) (l : ApiLadder) (hlen : l.Rungs.length ≤ 64) (hck : ∀ r ∈ l.Rungs, Chk r) : ∀ (m i : Nat) (M : List (Str × Int)) (E : Int) (code : List ApiIns) (R : List RP), i ≤ l.Rungs.length → l.Rungs.length - i < m → 0 ≤ E → E ≤ 256 * (i : Int) → code.length ≤ 2000 * i → R.length = i →
    (∀ s, (mGet M s).getD 0 = labR R s) → (∀ x ∈ R, x.2.2 + (jm x.1).length ≤ code.length) →
    (∃ k e, wS n (l.Rungs.drop i) i E code R = .inl (k, e) ∧ e ≠ 0 ∧ codegen_whole_L4 n l m M (jsR R) (i : Int) E code (startsR R) = some (⟨⟨0, 0, 0, 0⟩, []⟩, [], (k : Int), e)) ∨
    (∃ E' code' R' M', wS n (l.Rungs.drop i) i E code R = .inr (E', code', R') ∧ codegen_whole_L4 n l m M (jsR R) (i : Int) E code (startsR R) = codegen_whole_J1 n l M' (jsR R') E' code' (startsR R') ∧ (∀ s, (mGet M' s).getD 0 = labR R' s) ∧ code'.length ≤ 2000 * l.Rungs.length ∧ R'.length = l.Rungs.length)
  | 0, i, M, E, code, R, hi, hm, _, _, _, _, _, _ => absurd hm (Nat.not_lt_zero _)
  | m + 1, i, M, E, code, R, hi, hm, hE0, hE1, hcl, hRl, hM, hR => by
    rw [codegen_whole_L4]
    by_cases h : i < l.Rungs.length
    · obtain ⟨r, hr⟩ := get_ex h
      have hc := hck r (List.mem_of_getElem? hr)
      have hcl1 := cE_len n hn r hc E
      have hco := coilsS_one r.Coils hc.coils
      have hcf := hc.cfew
      have hfew := hc.few
      have hed := Pc.edges_le r.Contacts
      rw [if_pos (by simpa using h), atI_nat, hr, Option.bind_some, cE_eq n hn r hc E hE0 (by omega), Option.bind_some, drop_cons hr, wS]
      dsimp only
      by_cases he : (cE n r E).2 = 0
      · rw [if_neg (by simpa using he), if_neg (by simpa using he), coils_eq n r (by omega) (by omega), Option.bind_some, hco]
        dsimp only
        have hkl : (r.Coils.map fun c => (⟨11 + c.Kind, c.A, 0⟩ : ApiIns)).length = r.Coils.length := List.length_map _
        have hsl : (startsR R).length = i := by rw [startsR, List.length_map]; exact hRl
        have hst : startsR R ++ [(code.length : Int)] = startsR (R ++ [(r, code.length, (code ++ (cE n r E).1 ++ r.Coils.map fun c => (⟨11 + c.Kind, c.A, 0⟩ : ApiIns)).length)]) := by
          rw [startsR, startsR, List.map_append]; rfl
        have hxl : (code ++ (cE n r E).1 ++ r.Coils.map fun c => (⟨11 + c.Kind, c.A, 0⟩ : ApiIns)).length = code.length + (cE n r E).1.length + r.Coils.length := by
          rw [List.length_append, List.length_append, hkl]
        have hM2 : ∀ s, (mGet (mPut M r.Label (code.length : Int)) s).getD 0 = labR (R ++ [(r, code.length, (code ++ (cE n r E).1 ++ r.Coils.map fun c => (⟨11 + c.Kind, c.A, 0⟩ : ApiIns)).length)]) s := fun s => by
          rw [mGet_put, labR_snoc]
          by_cases hs : r.Label = s
          · rw [if_pos (by simp [hs]), if_pos hs]; rfl
          · rw [if_neg (by simpa using Ne.symm hs), if_neg hs]; exact hM s
        rw [if_neg (by simp), if_pos (by simp [hsl]; omega), Option.bind_some, Pc.rungeval_EdgeCount_eq n r (by omega) (by omega), Option.bind_some, if_pos (by omega), Option.bind_some, if_pos (by rw [List.length_append, hkl]; omega), Option.bind_some, hst, wrapN (by omega), wrapI (by omega) (by omega)]
        by_cases hj : r.Jump = noS
        · have hjm : jm r = [] := by rw [jm, if_pos hj]
          have hjs : jsR (R ++ [(r, code.length, (code ++ (cE n r E).1 ++ r.Coils.map fun c => (⟨11 + c.Kind, c.A, 0⟩ : ApiIns)).length)]) = jsR R := by rw [jsR_snoc, if_pos hj]
          rw [if_neg (by simp only [Bool.not_eq_true', decide_eq_false_iff_not]; exact fun q => q hj), hjm, List.append_nil]
          rw [← hjs]
          refine whole_L4 n hn l hlen hck m (i + 1) _ _ _ _ (by omega) (by omega) (by omega) (by omega) (by omega) (by simp [hRl]) hM2 fun x hx => ?_
          rcases List.mem_append.1 hx with hx | hx
          · have := hR x hx; omega
          · rw [List.mem_singleton] at hx; subst hx
            dsimp only
            rw [hjm]; simp
        · have hjm : jm r = [⟨15, ⟨0, 0⟩, 0⟩] := by rw [jm, if_neg hj]
          have hnew : mPut (jsR R) ((code ++ (cE n r E).1 ++ r.Coils.map fun c => (⟨11 + c.Kind, c.A, 0⟩ : ApiIns)).length : Int) r.Jump = jsR (R ++ [(r, code.length, (code ++ (cE n r E).1 ++ r.Coils.map fun c => (⟨11 + c.Kind, c.A, 0⟩ : ApiIns)).length)]) := by
            rw [jsR_snoc, if_neg hj, mPut_new]
            intro p hp
            obtain ⟨x, hx, hxj, rfl⟩ := jsR_mem hp
            have := hR x hx
            rw [jm, if_neg hxj, List.length_singleton] at this
            dsimp only
            omega
          rw [if_pos (by simp only [Bool.not_eq_true', decide_eq_false_iff_not]; exact hj), if_pos (by rw [hxl]; simp; omega), Option.bind_some, hnew, hjm]
          refine whole_L4 n hn l hlen hck m (i + 1) _ _ _ _ (by omega) (by omega) (by omega) (by omega) (by rw [List.length_append, hxl]; simp; omega) (by simp [hRl]) hM2 fun x hx => ?_
          rcases List.mem_append.1 hx with hx | hx
          · have := hR x hx
            rw [List.length_append, hxl]; omega
          · rw [List.mem_singleton] at hx; subst hx
            dsimp only
            rw [hjm]
            simp only [List.length_append]
            exact Nat.le_refl _
      · rw [if_pos he, if_pos (by simpa using he)]
        exact .inl ⟨i, _, rfl, he, rfl⟩
    · rw [if_neg (by simpa using h), List.drop_eq_nil_of_le (by omega), wS]
      exact .inr ⟨E, code, R, M, rfl, rfl, hM, by omega, by omega⟩
structure WI (code : List ApiIns) (R : List RP) : Prop where
  pos : ∀ x ∈ R, x.1.Jump ≠ noS → code[x.2.2]? = some ⟨15, ⟨0, 0⟩, 0⟩
  ord : R.Pairwise fun x y => x.1.Jump ≠ noS → x.2.2 < y.2.2
theorem wS_inv (n : Nat) : ∀ (rs : List ApiRung) (i : Nat) (E : Int) (code : List ApiIns) (R : List RP) {E' : Int} {code' : List ApiIns} {R' : List RP}, wS n rs i E code R = .inr (E', code', R') → WI code R → WI code' R'
  | [], i, E, code, R, E', code', R', h, hi => by rw [wS] at h; cases h; exact hi
  | r :: rs, i, E, code, R, E', code', R', h, hi => by
    rw [wS] at h
    split at h
    · cases h
    · refine wS_inv n rs _ _ _ _ h ⟨fun x hx hj => ?_, ?_⟩
      · rcases List.mem_append.1 hx with hx | hx
        · have := hi.pos x hx hj
          have hl := (List.getElem?_eq_some_iff.1 this).1
          rw [List.append_assoc, List.append_assoc, List.getElem?_append_left hl]; exact this
        · rw [List.mem_singleton] at hx; subst hx
          dsimp only at hj ⊢
          rw [List.getElem?_append_right (Nat.le_refl _), Nat.sub_self, jm, if_neg hj]; rfl
      · refine List.pairwise_append.2 ⟨hi.ord, by simp, fun x hx y hy hj => ?_⟩
        rw [List.mem_singleton] at hy; subst hy
        have := (List.getElem?_eq_some_iff.1 (hi.pos x hx hj)).1
        dsimp only
        simp only [List.length_append]; omega
theorem WI.uniq {code : List ApiIns} {R : List RP} (h : WI code R) {p : Int} {s s' : Str} (h1 : (p, s) ∈ jsR R) (h2 : (p, s') ∈ jsR R) : s = s' := by
  obtain ⟨x, hx, hxj, e1⟩ := jsR_mem h1
  obtain ⟨y, hy, hyj, e2⟩ := jsR_mem h2
  cases e1
  have e : y.2.2 = x.2.2 := by
    have := congrArg Prod.fst e2
    simp only at this; omega
  have key : ∀ {L : List RP}, L.Pairwise (fun x y => x.1.Jump ≠ noS → x.2.2 < y.2.2) → x ∈ L → y ∈ L → x = y := by
    intro L hL
    induction hL with
    | nil => intro h; cases h
    | cons ha _ ih =>
      intro hx hy
      rcases List.mem_cons.1 hx with e1 | hx2
      · rcases List.mem_cons.1 hy with e2 | hy2
        · rw [e1, e2]
        · have := ha y hy2 (e1 ▸ hxj); rw [← e1] at this; omega
      · rcases List.mem_cons.1 hy with e2 | hy2
        · have := ha x hx2 (e2 ▸ hyj); rw [← e2] at this; omega
        · exact ih hx2 hy2
  have := key h.ord hx hy
  subst this
  exact (congrArg Prod.snd e2).symm
theorem WI.place {code : List ApiIns} {R : List RP} (h : WI code R) {p : Int} {s : Str} (h1 : (p, s) ∈ jsR R) : ∃ q : Nat, p = (q : Int) ∧ code[q]? = some ⟨15, ⟨0, 0⟩, 0⟩ := by
  obtain ⟨x, hx, hxj, e⟩ := jsR_mem h1
  cases e
  exact ⟨_, rfl, h.pos x hx hxj⟩
structure Fin2 (R : List RP) (code c : List ApiIns) : Prop where
  len : c.length = code.length
  out : ∀ j : Nat, (∀ s, ((j : Int), s) ∉ jsR R) → c[j]? = code[j]?
  jmp : ∀ (j : Nat) s, ((j : Int), s) ∈ jsR R → c[j]? = some ⟨15, ⟨0, 0⟩, labR R s⟩
theorem Fin2.uniq {R : List RP} {code c c' : List ApiIns} (h : Fin2 R code c) (h' : Fin2 R code c') : c = c' := by
  refine List.ext_getElem? fun j => ?_
  by_cases hj : ∃ s, ((j : Int), s) ∈ jsR R
  · obtain ⟨s, hs⟩ := hj
    rw [h.jmp j s hs, h'.jmp j s hs]
  · have : ∀ s, ((j : Int), s) ∉ jsR R := fun s hs => hj ⟨s, hs⟩
    rw [h.out j this, h'.out j this]
theorem erase_keep {α : Type} {z y : α} : ∀ {l : List α} {i : Nat}, l[i]? = some z → y ∈ l → y ≠ z → y ∈ l.eraseIdx i
  | [], i, h, _, _ => by simp at h
  | x :: l, 0, h, hy, hne => by
    simp at h; subst h
    rcases List.mem_cons.1 hy with e | hy
    · exact absurd e hne
    · exact hy
  | x :: l, i + 1, h, hy, hne => by
    rw [List.eraseIdx_cons_succ]
    rcases List.mem_cons.1 hy with e | hy
    · rw [e]; simp
    · exact List.mem_cons_of_mem _ (erase_keep (by simpa using h) hy hne)
def wRes (l : ApiLadder) (E : Int) (R : List RP) (c : List ApiIns) : ApiProgram × List Int × Int × Int :=
  (⟨⟨l.I, l.Q, l.M, E⟩, c ++ [⟨16, ⟨0, 0⟩, 0⟩]⟩, startsR R ++ [(c.length : Int)], (l.Rungs.length : Int), 0)
theorem patch_loop (l : ApiLadder) (M : List (Str × Int)) (E : Int) (R : List RP) (code : List ApiIns) (hW : WI code R) (hM : ∀ s, (mGet M s).getD 0 = labR R s) (hcl : code.length ≤ 1000000) (hRl : R.length ≤ 1000) : ∀ (m : Nat) (left : List (Int × Str)) (c : List ApiIns),
    left.length < m → (∀ z ∈ left, z ∈ jsR R) → c.length = code.length → (∀ j : Nat, (∀ s, ((j : Int), s) ∉ jsR R) → c[j]? = code[j]?) →
    (∀ (j : Nat) s, ((j : Int), s) ∈ jsR R → c[j]? = some ⟨15, ⟨0, 0⟩, labR R s⟩ ∨ (((j : Int), s) ∈ left ∧ c[j]? = some ⟨15, ⟨0, 0⟩, 0⟩)) →
    ∃ c', Fin2 R code c' ∧ codegen_whole_L3 l M E (startsR R) m left c = some (wRes l E R c')
  | 0, left, c, h, _, _, _, _ => absurd h (Nat.not_lt_zero _)
  | m + 1, left, c, h, hsub, hlen, hout, hjmp => by
    rw [codegen_whole_L3]
    cases hl : left.isEmpty with
    | true =>
      have hnil : left = [] := by simpa using hl
      subst hnil
      have hsl : (startsR R).length = R.length := by rw [startsR, List.length_map]
      refine ⟨c, ⟨hlen, hout, fun j s hs => ?_⟩, ?_⟩
      · rcases hjmp j s hs with q | ⟨q, _⟩
        · exact q
        · cases q
      · rw [if_pos rfl, codegen_whole_J2, if_pos (by rw [hsl]; simp; omega), Option.bind_some, if_pos (by simp; omega), Option.bind_some]
        rfl
    | false =>
      have hne : left ≠ [] := by intro e; subst e; simp at hl
      rw [if_neg (by simp)]
      have step : ∀ (i : Nat) (z : Int × Str), left[i]? = some z → ∃ c', Fin2 R code c' ∧ ((atI c z.1).bind fun x => (some (c.set z.1.toNat (⟨x.Op, x.A, ((mGet M z.2).getD 0)⟩ : ApiIns))).bind fun l2 => codegen_whole_L3 l M E (startsR R) m (left.eraseIdx i) l2) = some (wRes l E R c') := by
        intro i z hz
        have hzl := List.mem_of_getElem? hz
        obtain ⟨p, s⟩ := z
        have hzj := hsub _ hzl
        obtain ⟨q, rfl, hq⟩ := hW.place hzj
        have hql := (List.getElem?_eq_some_iff.1 hq).1
        obtain ⟨v, hv⟩ : ∃ v, c[q]? = some ⟨15, ⟨0, 0⟩, v⟩ := by
          rcases hjmp q s hzj with e | ⟨_, e⟩
          · exact ⟨_, e⟩
          · exact ⟨_, e⟩
        have hil := get_lt hz
        have hel : (left.eraseIdx i).length < m := by rw [List.length_eraseIdx, if_pos hil]; omega
        obtain ⟨c', f1, f2⟩ := patch_loop l M E R code hW hM hcl hRl m (left.eraseIdx i) (c.set q ⟨15, ⟨0, 0⟩, labR R s⟩) hel (fun z hz => hsub z (List.mem_of_mem_eraseIdx hz)) (by rw [List.length_set]; exact hlen)
          (fun j hj => by
            have hne : q ≠ j := fun e => hj s (e ▸ hzj)
            rw [List.getElem?_set_ne hne]; exact hout j hj)
          (fun j s' hj => by
            by_cases e : q = j
            · subst e
              have := hW.uniq hzj hj
              subst this
              exact .inl (by rw [List.getElem?_set_self (by omega)])
            · rw [List.getElem?_set_ne e]
              rcases hjmp j s' hj with w | ⟨w1, w2⟩
              · exact .inl w
              · refine .inr ⟨erase_keep hz w1 fun e2 => e ?_, w2⟩
                have := congrArg Prod.fst e2
                simp only at this; omega)
        refine ⟨c', f1, ?_⟩
        dsimp only
        rw [atI_nat, hv, Option.bind_some, Option.bind_some, Int.toNat_natCast, hM s]
        exact f2
      obtain ⟨z0, hz0⟩ := get_ex (l := left) (i := 0) (List.length_pos_iff.2 hne)
      obtain ⟨c0, g1, _⟩ := step 0 z0 hz0
      refine ⟨c0, g1, Agr.of hne fun i z hz => ?_⟩
      obtain ⟨ci, k1, k2⟩ := step i z hz
      rw [← k1.uniq g1]
      exact k2
theorem whole_eq (n : Nat) (hn : 1000000 ≤ n) (hb : n ≤ 1000000000) (l : ApiLadder) (hl : l.Rungs.length < n) (hf : ∀ r ∈ l.Rungs, Pc.fewR n r) :
    ((Pc.checkS l).2 ≠ 0 ∧ codegen_whole n l = some (⟨⟨0, 0, 0, 0⟩, []⟩, [], (Pc.checkS l).1, (Pc.checkS l).2)) ∨
    ((Pc.checkS l).2 = 0 ∧ ((∃ (k : Nat) (e : Int), wS n l.Rungs 0 0 [] [] = .inl (k, e) ∧ e ≠ 0 ∧ codegen_whole n l = some (⟨⟨0, 0, 0, 0⟩, []⟩, [], (k : Int), e)) ∨
      (∃ E code R c, wS n l.Rungs 0 0 [] [] = .inr (E, code, R) ∧ WI code R ∧ Fin2 R code c ∧ code.length ≤ 2000 * l.Rungs.length ∧ R.length = l.Rungs.length ∧ codegen_whole n l = some (wRes l E R c)))) := by
  have hp := Pc.printer_Check_eq n l (by omega) hl hb hf
  rw [codegen_whole, hp, Option.bind_some]
  by_cases h0 : (Pc.checkS l).2 = 0
  · refine .inr ⟨h0, ?_⟩
    obtain ⟨c1, c2⟩ := checked h0
    have hck : ∀ r ∈ l.Rungs, Chk r := fun r hr => by
      obtain ⟨i, hi⟩ := List.getElem?_of_mem hr
      exact chk_of (c2 i r hi)
    have hW0 : WI [] [] := ⟨fun x hx => (by cases hx), List.Pairwise.nil⟩
    dsimp only
    rw [if_neg (by simpa using h0)]
    rcases whole_L4 n hn l c1 hck n 0 [] 0 [] [] (by omega) (by omega) (by omega) (by omega) (by simp) rfl (fun s => rfl) (fun x hx => by cases hx) with ⟨k, e, q1, q2, q3⟩ | ⟨E', code', R', M', q1, q2, q3, q4, q5⟩
    · rw [List.drop_zero] at q1
      exact .inl ⟨k, e, q1, q2, q3⟩
    · rw [List.drop_zero] at q1
      have hW := wS_inv n l.Rungs 0 0 [] [] q1 hW0
      have hjl : (jsR R').length ≤ 64 := by
        rw [jsR, List.length_map]
        exact Nat.le_trans (List.length_filter_le _ _) (by omega)
      obtain ⟨c, f1, f2⟩ := patch_loop l M' E' R' code' hW q3 (by omega) (by omega) n (jsR R') code' (by omega) (fun _ h => h) rfl (fun _ _ => rfl) (fun j s hs => .inr ⟨hs, by
        obtain ⟨q, e, hq⟩ := hW.place hs
        have : j = q := by omega
        subst this; exact hq⟩)
      refine .inr ⟨E', code', R', c, q1, hW, f1, q4, q5, ?_⟩
      have e : codegen_whole_L4 n l n [] [] 0 0 [] [] = codegen_whole_L4 n l n [] (jsR []) ((0 : Nat) : Int) 0 [] (startsR []) := rfl
      rw [e, q2, codegen_whole_J1]
      exact f2
  · refine .inl ⟨h0, ?_⟩
    dsimp only
    rw [if_pos (by simpa using h0)]
end Go.G
namespace Go.G
open Go.Av
theorem wS_err {n : Nat} {r : ApiRung} {rs : List ApiRung} {i : Nat} {E : Int} {code : List ApiIns} {R : List RP} (h : (cE n r E).2 ≠ 0) : wS n (r :: rs) i E code R = .inl (i, (cE n r E).2) := by rw [wS, if_pos h]
theorem wS_ok {n : Nat} {r : ApiRung} {rs : List ApiRung} {i : Nat} {E : Int} {code : List ApiIns} {R : List RP} (h : (cE n r E).2 = 0) : wS n (r :: rs) i E code R = wS n rs (i + 1) (E + (Pc.edges r.Contacts : Nat)) (code ++ (cE n r E).1 ++ (coilsS r.Coils []).1 ++ jm r) (R ++ [(r, code.length, (code ++ (cE n r E).1 ++ (coilsS r.Coils []).1).length)]) := by rw [wS, if_neg (by simpa using h)]
theorem wS_fst (n : Nat) : ∀ (rs : List ApiRung) (i : Nat) (E : Int) (code : List ApiIns) (R : List RP) {E' : Int} {code' : List ApiIns} {R' : List RP}, wS n rs i E code R = .inr (E', code', R') → R'.map Prod.fst = R.map Prod.fst ++ rs
  | [], i, E, code, R, E', code', R', h => by rw [wS] at h; cases h; simp
  | r :: rs, i, E, code, R, E', code', R', h => by
    rw [wS] at h
    split at h
    · cases h
    · rw [wS_fst n rs _ _ _ _ h]; simp
theorem ldOp_ne (k : Int) : ldOp k ≠ 15 := by unfold ldOp; split; · decide
                                              split; · decide
                                              split <;> decide
theorem jnOp_ne15 (K k : Int) : jnOp K k ≠ 15 := by unfold jnOp; split <;> split <;> decide
theorem ppOp_ne15 (K : Int) : ppOp K ≠ 15 := by unfold ppOp; split <;> decide
theorem layS_ops (cs : List ApiContact) (sl : List Int) : ∀ t : TreeTree, ∀ x ∈ layS cs sl t, x.Op ≠ 15 := by
  intro t
  induction t using tree_ind with
  | h K N ks ih =>
    intro x hx
    rw [layS] at hx
    split at hx
    · rw [List.mem_singleton] at hx; subst hx; exact ldOp_ne _
    · have hT : ∀ js : List TreeTree, (∀ k ∈ js, ∀ x ∈ layS cs sl k, x.Op ≠ 15) → ∀ x ∈ layT cs sl K js, x.Op ≠ 15 := by
        intro js
        induction js with
        | nil => intro _ x hx; simp [layT] at hx
        | cons k js ihj =>
          intro h x hx
          rw [layT] at hx
          rcases List.mem_append.1 hx with hx | hx
          · split at hx
            · rw [List.mem_singleton] at hx; subst hx; exact jnOp_ne15 _ _
            · rcases List.mem_cons.1 hx with rfl | hx
              · decide
              · rcases List.mem_append.1 hx with hx | hx
                · exact h k (by simp) x hx
                · rw [List.mem_singleton] at hx; subst hx; exact ppOp_ne15 _
          · exact ihj (fun j hj => h j (by simp [hj])) x hx
      cases ks with
      | nil => simp [layH] at hx
      | cons k ks =>
        rw [layH] at hx
        rcases List.mem_append.1 hx with hx | hx
        · exact ih k (by simp) x hx
        · exact hT ks (fun j hj => ih j (by simp [hj])) x hx
theorem layS_ne {len : Int} (cs : List ApiContact) (sl : List Int) : ∀ t : TreeTree, Ok len t → layS cs sl t ≠ [] := by
  intro t
  induction t using tree_ind with
  | h K N ks ih =>
    intro hk
    rw [layS]
    split
    · simp
    · rename_i hK
      rw [Ok] at hk
      rcases hk with ⟨h0, _⟩ | ⟨_, _, h2, h3⟩
      · exact absurd h0 hK
      · cases ks with
        | nil => simp at h2
        | cons k ks =>
          rw [layH]
          intro e
          have hok : Ok len k := by
            have := OkL_iff.1 h3.2 k (by simp)
            exact this
          exact ih k (by simp) hok (List.append_eq_nil_iff.1 e).1
theorem cE_body (n : Nat) (hn : 1000000 ≤ n) (r : ApiRung) (hc : Chk r) (E : Int) (he : (cE n r E).2 = 0) : (cE n r E).1 ≠ [] ∧ ∀ x ∈ (cE n r E).1 ++ (coilsS r.Coils []).1, x.Op ≠ 15 := by
  have hfew := hc.few
  obtain ⟨_, ht⟩ := rdT_eq n r (by omega) hn
  have hlay : (rdT n r).2 = 0 ∧ (cE n r E).1 = layS r.Contacts (slotsS r.Contacts E) (rdT n r).1 := by
    rw [cE, contS] at he ⊢
    split at he
    · rename_i q; exact absurd he q
    · split at he
      · cases he
      · rename_i q1 q2
        rw [if_neg q1, if_neg q2]
        exact ⟨by simpa using q1, rfl⟩
  rw [hlay.2, coilsS_one r.Coils hc.coils]
  refine ⟨layS_ne _ _ _ (ht hlay.1).ok, fun x hx => ?_⟩
  rcases List.mem_append.1 hx with hx | hx
  · exact layS_ops _ _ _ x hx
  · simp only [List.mem_map] at hx
    obtain ⟨c, hcm, rfl⟩ := hx
    have := List.any_eq_false.1 hc.coils c hcm
    simp only [badC, Bool.or_eq_true, decide_eq_true_eq, not_or] at this
    show 11 + c.Kind ≠ 15
    omega
structure Seg (code : List ApiIns) (R : List RP) : Prop where
  head : R = [] → code.length = 0
  first : ∀ x, R[0]? = some x → x.2.1 = 0
  next : ∀ (i : Nat) x y, R[i]? = some x → R[i + 1]? = some y → y.2.1 = x.2.2 + (jm x.1).length
  last : ∀ (i : Nat) x, R[i]? = some x → i + 1 = R.length → code.length = x.2.2 + (jm x.1).length
  pos : ∀ (i : Nat) x, R[i]? = some x → x.2.1 + 1 ≤ x.2.2
  ops : ∀ (i : Nat) x, R[i]? = some x → ∃ z, code[x.2.2 - 1]? = some z ∧ z.Op ≠ 15
theorem Seg.step {code : List ApiIns} {R : List RP} (h : Seg code R) (r : ApiRung) (b : List ApiIns) (hb : b ≠ []) (ho : ∀ x ∈ b, x.Op ≠ 15) : Seg (code ++ b ++ jm r) (R ++ [(r, code.length, (code ++ b).length)]) := by
  have hbp : 0 < b.length := List.length_pos_iff.2 hb
  have hat : ∀ {i : Nat} {x : RP}, (R ++ [(r, code.length, (code ++ b).length)])[i]? = some x → (i < R.length ∧ R[i]? = some x) ∨ (i = R.length ∧ x = (r, code.length, (code ++ b).length)) := fun {i x} hx => by
    by_cases q : i < R.length
    · rw [List.getElem?_append_left q] at hx; exact .inl ⟨q, hx⟩
    · rw [List.getElem?_append_right (by omega)] at hx
      have hi : i - R.length = 0 := by
        have := (List.getElem?_eq_some_iff.1 hx).1
        simp at this; omega
      rw [hi] at hx
      exact .inr ⟨by omega, (Option.some.inj hx).symm⟩
  refine ⟨fun e => by simp at e, fun x hx => ?_, fun i x y hx hy => ?_, fun i x hx hi => ?_, fun i x hx => ?_, fun i x hx => ?_⟩
  · rcases hat hx with ⟨q, hx⟩ | ⟨q, rfl⟩
    · exact h.first x hx
    · have : R = [] := List.length_eq_zero_iff.1 q.symm
      exact h.head this
  · rcases hat hx with ⟨q, hx⟩ | ⟨q, rfl⟩
    · rcases hat hy with ⟨_, hy⟩ | ⟨q2, rfl⟩
      · exact h.next i x y hx hy
      · exact h.last i x hx q2
    · rcases hat hy with ⟨q2, _⟩ | ⟨q2, _⟩
      · omega
      · omega
  · rw [List.length_append, List.length_singleton] at hi
    rcases hat hx with ⟨q, _⟩ | ⟨q, rfl⟩
    · omega
    · rw [List.length_append]
  · rcases hat hx with ⟨_, hx⟩ | ⟨_, rfl⟩
    · exact h.pos i x hx
    · show code.length + 1 ≤ (code ++ b).length
      rw [List.length_append]; omega
  · rcases hat hx with ⟨_, hx⟩ | ⟨_, rfl⟩
    · obtain ⟨z, hz, ho⟩ := h.ops i x hx
      refine ⟨z, ?_, ho⟩
      rw [List.append_assoc, List.getElem?_append_left (List.getElem?_eq_some_iff.1 hz).1]; exact hz
    · have hl : (code ++ b).length - 1 = code.length + (b.length - 1) := by rw [List.length_append]; omega
      obtain ⟨z, hz⟩ := get_ex (l := b) (i := b.length - 1) (by omega)
      refine ⟨z, ?_, ho z (List.mem_of_getElem? hz)⟩
      show (code ++ b ++ jm r)[(code ++ b).length - 1]? = some z
      rw [hl, List.append_assoc, List.getElem?_append_right (by omega), Nat.add_sub_cancel_left, List.getElem?_append_left (by omega)]; exact hz
theorem wS_seg (n : Nat) (hn : 1000000 ≤ n) : ∀ (rs : List ApiRung) (i : Nat) (E : Int) (code : List ApiIns) (R : List RP) {E' : Int} {code' : List ApiIns} {R' : List RP}, (∀ r ∈ rs, Chk r) → wS n rs i E code R = .inr (E', code', R') → Seg code R → Seg code' R'
  | [], i, E, code, R, E', code', R', _, h, hi => by rw [wS] at h; cases h; exact hi
  | r :: rs, i, E, code, R, E', code', R', hck, h, hi => by
    by_cases he : (cE n r E).2 = 0
    · rw [wS_ok he] at h
      obtain ⟨b1, b2⟩ := cE_body n hn r (hck r (by simp)) E he
      have := hi.step r ((cE n r E).1 ++ (coilsS r.Coils []).1) (fun e => b1 (List.append_eq_nil_iff.1 e).1) b2
      rw [← List.append_assoc] at this
      exact wS_seg n hn rs _ _ _ _ (fun q hq => hck q (by simp [hq])) h this
    · rw [wS_err he] at h; cases h
theorem labR_none (s : Str) : ∀ (B : List RP) (a : Int), (∀ y ∈ B, y.1.Label ≠ s) → B.foldl (fun a x => if x.1.Label = s then (x.2.1 : Int) else a) a = a
  | [], a, _ => rfl
  | y :: B, a, h => by
    rw [List.foldl_cons, if_neg (h y (by simp)), labR_none s B a fun z hz => h z (by simp [hz])]
theorem labR_at {R : List RP} {k : Nat} {x : RP} (hx : R[k]? = some x) (hu : ∀ (j : Nat) y, k < j → R[j]? = some y → y.1.Label ≠ x.1.Label) : labR R x.1.Label = (x.2.1 : Int) := by
  have hs : R = R.take k ++ x :: R.drop (k + 1) := by
    rw [← drop_cons hx, List.take_append_drop]
  rw [hs, labR, List.foldl_append, List.foldl_cons, if_pos rfl, labR_none]
  intro y hy
  obtain ⟨j, hj⟩ := List.getElem?_of_mem hy
  rw [List.getElem?_drop] at hj
  exact hu _ y (by omega) hj
section
variable (n : Nat) (l : ApiLadder) (E : Int) (code c : List ApiIns) (R : List RP)
theorem starts_at {i : Nat} {x : RP} (hx : R[i]? = some x) (last : Int) : atI (startsR R ++ [last]) (i : Int) = some (x.2.1 : Int) := by
  have := get_lt hx
  rw [atI_nat, List.getElem?_append_left (by rw [startsR, List.length_map]; exact this), startsR, List.getElem?_map, hx]; rfl
theorem starts_next (hS : Seg code R) (hF : c.length = code.length) {i : Nat} {x : RP} (hx : R[i]? = some x) : atI (startsR R ++ [(c.length : Int)]) ((i + 1 : Nat) : Int) = some ((x.2.2 + (jm x.1).length : Nat) : Int) := by
  have hi := get_lt hx
  by_cases q : i + 1 < R.length
  · obtain ⟨y, hy⟩ := get_ex q
    rw [starts_at R hy, hS.next i x y hx hy]
  · have e : i + 1 = R.length := by omega
    rw [atI_nat, List.getElem?_append_right (by rw [startsR, List.length_map]; omega), startsR, List.length_map, e, Nat.sub_self, List.getElem?_cons_zero, hF, hS.last i x hx e]
theorem L2_law (hR : R.map Prod.fst = l.Rungs) (hl : l.Rungs.length ≤ 64) (hu : ∀ (i j : Nat) x y, i < j → R[i]? = some x → R[j]? = some y → y.1.Label ≠ noS → x.1.Label ≠ y.1.Label) (last : Int) (i : Nat) (x : RP) (z : ApiIns) (hz : x.1.Jump ≠ noS → z.N = labR R x.1.Jump) (K : Int → Option Bool) : ∀ (m k : Nat), k ≤ l.Rungs.length → l.Rungs.length - k < m →
    law17_CodegenJumpTargets_L2 l (startsR R ++ [last]) (i : Int) K x.1 z m (k : Int) = K (IntKind.i64.wrap ((i : Int) + 1))
  | 0, k, hk, hm => absurd hm (Nat.not_lt_zero _)
  | m + 1, k, hk, hm => by
    have hRl : R.length = l.Rungs.length := by rw [← hR, List.length_map]
    rw [law17_CodegenJumpTargets_L2]
    by_cases h : k < l.Rungs.length
    · obtain ⟨y, hy⟩ := get_ex (l := R) (i := k) (by omega)
      have hrk : l.Rungs[k]? = some y.1 := by rw [← hR, List.getElem?_map, hy]; rfl
      have ih := L2_law hR hl hu last i x z hz K m (k + 1) (by omega) (by omega)
      rw [if_pos (by simpa using h), wrapN (by omega)]
      by_cases hj : x.1.Jump = noS
      · rw [if_neg (by simp only [Bool.not_eq_true', decide_eq_false_iff_not]; exact fun q => q hj)]; exact ih
      · rw [if_pos (by simp only [Bool.not_eq_true', decide_eq_false_iff_not]; exact hj), atI_nat, hrk, Option.bind_some]
        by_cases hlab : y.1.Label = x.1.Jump
        · have hlb : labR R x.1.Jump = (y.2.1 : Int) := by
            rw [← hlab]
            refine labR_at hy fun j w hjk hw e => ?_
            have hne : w.1.Label ≠ noS := by rw [e, hlab]; exact hj
            exact hu k j y w hjk hy hw hne e.symm
          rw [if_pos (by simpa using hlab), starts_at R hy, Option.bind_some, if_neg (by simp [hz hj, hlb])]
          exact ih
        · rw [if_neg (by simpa using hlab)]; exact ih
    · rw [if_neg (by simpa using h)]
theorem L1_law (hn : 100 ≤ n) (hal : law17_alive n = some true) (hR : R.map Prod.fst = l.Rungs) (hl : l.Rungs.length ≤ 64) (hcl : code.length ≤ 200000) (hW : WI code R) (hF : Fin2 R code c) (hS : Seg code R) (hu : ∀ (i j : Nat) x y, i < j → R[i]? = some x → R[j]? = some y → y.1.Label ≠ noS → x.1.Label ≠ y.1.Label) : ∀ (m i : Nat), i ≤ l.Rungs.length → l.Rungs.length - i < m →
    law17_CodegenJumpTargets_L1 n l (wRes l E R c).1 (startsR R ++ [(c.length : Int)]) m (i : Int) = some true
  | 0, i, hi, hm => absurd hm (Nat.not_lt_zero _)
  | m + 1, i, hi, hm => by
    have hRl : R.length = l.Rungs.length := by rw [← hR, List.length_map]
    rw [law17_CodegenJumpTargets_L1]
    by_cases h : i < l.Rungs.length
    · obtain ⟨x, hx⟩ := get_ex (l := R) (i := i) (by omega)
      have hri : l.Rungs[i]? = some x.1 := by rw [← hR, List.getElem?_map, hx]; rfl
      have hp := hS.pos i x hx
      have hle : x.2.2 + (jm x.1).length ≤ code.length := by
        have key : ∀ (d j : Nat) y, R.length = j + 1 + d → R[j]? = some y → y.2.2 + (jm y.1).length ≤ code.length := by
          intro d
          induction d with
          | zero => intro j y hj hy; exact Nat.le_of_eq (hS.last j y hy (by omega)).symm
          | succ d ih =>
            intro j y hj hy
            obtain ⟨w, hw⟩ := get_ex (l := R) (i := j + 1) (by omega)
            have h1 := hS.next j y w hy hw
            have h2 := ih (j + 1) w (by omega) hw
            have h3 := hS.pos _ w hw
            omega
        exact key (R.length - (i + 1)) i x (by have := get_lt hx; omega) hx
      have hjm : (jm x.1).length ≤ 1 := by rw [jm]; split <;> simp
      have hlast : ∃ z, atI (wRes l E R c).1.Code (IntKind.i64.wrap (((x.2.2 + (jm x.1).length : Nat) : Int) - 1)) = some z ∧ ((z.Op == 15) == (!(decide (x.1.Jump = (⟨#[]⟩ : Str))))) = true ∧ (x.1.Jump ≠ noS → z.N = labR R x.1.Jump) := by
        have hq : IntKind.i64.wrap (((x.2.2 + (jm x.1).length : Nat) : Int) - 1) = ((x.2.2 + (jm x.1).length - 1 : Nat) : Int) := by rw [wrapI (by omega) (by omega)]; omega
        have hcat : ∀ q : Nat, q < code.length → atI (wRes l E R c).1.Code (q : Int) = c[q]? := fun q hq => by
          rw [atI_nat]
          show (c ++ _)[q]? = _
          rw [List.getElem?_append_left (by rw [hF.len]; exact hq)]
        rw [hq]
        by_cases hj : x.1.Jump = noS
        · have hjl : (jm x.1).length = 0 := by rw [jm, if_pos hj]; rfl
          obtain ⟨z, hz, ho⟩ := hS.ops i x hx
          have hno : ∀ s, (((x.2.2 - 1 : Nat) : Int), s) ∉ jsR R := fun s hs => by
            obtain ⟨q, e, hq2⟩ := hW.place hs
            have : x.2.2 - 1 = q := by omega
            rw [this, hq2] at hz
            cases hz
            exact ho rfl
          refine ⟨z, ?_, ?_, fun q => absurd hj q⟩
          · rw [hjl, Nat.add_zero, hcat _ (by omega), hF.out _ hno]; exact hz
          · have h15 : (z.Op == 15) = false := by simpa using ho
            rw [h15, show decide (x.1.Jump = (⟨#[]⟩ : Str)) = true from decide_eq_true hj]; rfl
        · have hjl : (jm x.1).length = 1 := by rw [jm, if_neg hj]; rfl
          have hm := jsR_of (List.mem_of_getElem? hx) hj
          refine ⟨_, by rw [hjl, Nat.add_sub_cancel, hcat _ (by omega), hF.jmp _ _ hm], ?_, fun _ => rfl⟩
          rw [show decide (x.1.Jump = (⟨#[]⟩ : Str)) = false from decide_eq_false hj]; rfl
      obtain ⟨z, z1, z2, z3⟩ := hlast
      rw [if_pos (by simpa using h), atI_nat, hri, Option.bind_some, wrapN (by omega), starts_next code c R hS hF.len hx, Option.bind_some, starts_at R hx, Option.bind_some, if_neg (by simp; omega), if_neg (by
        show ¬ (decide (_ > (((c ++ [_]).length : Nat) : Int))) = true
        rw [List.length_append, hF.len]; simp; omega), z1, Option.bind_some, if_neg (by rw [z2]; decide), show (0 : Int) = ((0 : Nat) : Int) from rfl, L2_law l R hR hl hu _ i x z z3 _ n 0 (by omega) (by omega), wrapN (by omega)]
      exact L1_law hn hal hR hl hcl hW hF hS hu m (i + 1) (by omega) (by omega)
    · rw [if_neg (by simpa using h), hal]; rfl
end
theorem jumps_law0 (n : Nat) (hn : 2000000 ≤ n) (hb : n ≤ 1000000000) (hal : law17_alive n = some true) (l : ApiLadder) (hl : bigL l) : law17_CodegenJumpTargets n l = some true := by
  obtain ⟨b, h1⟩ := tl17 n (by omega) l hl
  rw [law17_CodegenJumpTargets, h1, Option.bind_some]
  by_cases c1 : b > 0
  · rw [if_pos (by simpa using c1), hal]; rfl
  rw [if_neg (by simpa using c1)]
  have err : ∀ (k e : Int), e ≠ 0 → codegen_whole n l = some (⟨⟨0, 0, 0, 0⟩, []⟩, [], k, e) → ((codegen_Ladder n l).bind fun x => (codegen_Starts n l).bind fun y => if (x.2.2 != y.2) = true then some false else if (x.2.2 != 0) = true then (law17_alive n).bind fun z => if z = true then some ((y.1.length : Int) == 0) else some false else
      if ((y.1.length : Int) != (IntKind.i64.wrap ((l.Rungs.length : Int) + 1))) = true then some false else (atI y.1 0).bind fun u => if (u != 0) = true then some false else (atI y.1 (IntKind.i64.wrap ((y.1.length : Int) - 1))).bind fun v => if (v != (IntKind.i64.wrap ((x.1.Code.length : Int) - 1))) = true then some false else law17_CodegenJumpTargets_L1 n l x.1 y.1 n 0) = some true := by
    intro k e he hw
    rw [codegen_Ladder, hw, codegen_Starts, hw]
    simp only [Option.bind_some]
    rw [if_neg (by simp), if_pos (by simpa using he), hal, Option.bind_some, if_pos rfl]
    rfl
  rcases whole_eq n (by omega) hb l (by have := hl.1; omega) (fun r hr => by have := hl.2 r hr; exact ⟨by omega, by omega⟩) with ⟨h0, q⟩ | ⟨h0, q⟩
  · exact err _ _ h0 q
  · obtain ⟨k1, k2⟩ := checked h0
    have hck : ∀ r ∈ l.Rungs, Chk r := fun r hr => by
      obtain ⟨i, hi⟩ := List.getElem?_of_mem hr
      exact chk_of (k2 i r hi)
    rcases q with ⟨k, e, q1, q2, q3⟩ | ⟨E, code, R, c, q1, hW, hF, z1, z2, q3⟩
    · exact err _ _ q2 q3
    · have hfst := wS_fst n l.Rungs 0 0 [] [] q1
      rw [List.map_nil, List.nil_append] at hfst
      have hS : Seg code R := wS_seg n (by omega) l.Rungs 0 0 [] [] hck q1 ⟨fun _ => rfl, fun x hx => by simp at hx, fun i x y hx => by simp at hx, fun i x hx => by simp at hx, fun i x hx => by simp at hx, fun i x hx => by simp at hx⟩
      have hu : ∀ (i j : Nat) x y, i < j → R[i]? = some x → R[j]? = some y → y.1.Label ≠ noS → x.1.Label ≠ y.1.Label := fun i j x y hij hx hy hne e => by
        have hrj : l.Rungs[j]? = some y.1 := by rw [← hfst, List.getElem?_map, hy]; rfl
        have hri : l.Rungs[i]? = some x.1 := by rw [← hfst, List.getElem?_map, hx]; rfl
        have hc := k2 j y.1 hrj
        unfold Pc.rungC at hc
        rw [if_neg (show ¬ y.1.Label = (⟨#[]⟩ : Str) from hne)] at hc
        split at hc
        · cases hc
        · split at hc
          · cases hc
          · rename_i hany
            refine hany (List.any_eq_true.2 ⟨x.1, ?_, by simpa using e⟩)
            refine List.mem_of_getElem? (i := i) ?_
            rw [List.getElem?_take, if_pos hij]; exact hri
      have hsl : (startsR R).length = R.length := by rw [startsR, List.length_map]
      have hzero : atI (startsR R ++ [(c.length : Int)]) 0 = some 0 := by
        rw [show (0 : Int) = ((0 : Nat) : Int) from rfl]
        by_cases hnil : R = []
        · subst hnil
          have := hS.head rfl
          rw [atI_nat]
          simp [startsR, hF.len, this]
        · obtain ⟨x, hx⟩ := get_ex (l := R) (i := 0) (List.length_pos_iff.2 hnil)
          rw [starts_at R hx, hS.first x hx]
      have hlast : atI (startsR R ++ [(c.length : Int)]) (IntKind.i64.wrap (((startsR R ++ [(c.length : Int)]).length : Int) - 1)) = some (c.length : Int) := by
        have e : IntKind.i64.wrap (((startsR R ++ [(c.length : Int)]).length : Int) - 1) = ((startsR R).length : Int) := by
          rw [List.length_append, List.length_singleton, wrapI (by omega) (by omega)]; omega
        rw [e, atI_nat, List.getElem?_append_right (Nat.le_refl _), Nat.sub_self]; rfl
      have hfl := hF.len
      rw [codegen_Ladder, q3, codegen_Starts, q3]
      simp only [Option.bind_some]
      rw [if_neg (by simp), if_neg (by simp [wRes])]
      show (if (((startsR R ++ [(c.length : Int)]).length : Int) != _) = true then _ else _) = _
      rw [if_neg (by rw [List.length_append, hsl, z2, wrapN (by omega)]; simp)]
      show ((atI (startsR R ++ [(c.length : Int)]) 0).bind _) = _
      rw [hzero, Option.bind_some, if_neg (by simp)]
      show ((atI (startsR R ++ [(c.length : Int)]) (IntKind.i64.wrap (((startsR R ++ [(c.length : Int)]).length : Int) - 1))).bind _) = _
      rw [hlast, Option.bind_some]
      show (if ((c.length : Int) != IntKind.i64.wrap ((((c ++ [_]).length : Nat) : Int) - 1)) = true then _ else _) = _
      rw [if_neg (by rw [List.length_append, List.length_singleton, wrapI (by omega) (by omega)]; simp), show (0 : Int) = ((0 : Nat) : Int) from rfl]
      exact L1_law n l E code c R (by omega) hal hfst k1 (by omega) hW hF hS hu n 0 (by omega) (by omega)
theorem jumps_law (l : ApiLadder) (hl : bigL l) : law17_CodegenJumpTargets 2000000 l = some true :=
  jumps_law0 2000000 (Nat.le_refl _) (by omega) alive17 l hl
end Go.G

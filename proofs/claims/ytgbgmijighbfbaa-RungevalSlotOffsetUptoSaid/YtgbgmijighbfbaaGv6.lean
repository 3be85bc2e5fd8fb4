/- The Av framework: operations that write memory. No law is proved here. -/
import Derived.Test.YtgbgmijighbfbaaGv5
import Derived.Laws.Tables
set_option linter.unusedSimpArgs false
set_option linter.unusedVariables false
set_option linter.unusedSectionVars false
namespace Go.Av

/-- One block alone is written. -/
structure Only (g : Nat) (w w' : World) : Prop where
  os : w'.os = w.os
  tape : w'.tape = w.tape
  output : w'.output = w.output
  size : w'.heap.size = w.heap.size
  block : ∀ b, b ≠ g → w'.heap[b]? = w.heap[b]?
  frz : ∀ a, w'.frozen? a = w.frozen? a

theorem Only.setRow (w : World) (g : Nat) (cs : Array Value) : Only g w (w.setRow g cs) := ⟨rfl, rfl, rfl, by simp, fun b hb => setRow_other w g b cs hb, fun a => by
  unfold World.frozen?
  by_cases h : a.block = g
  · cases hg : w.heap[g]? with
    | none =>
      have : (w.setRow g cs).heap[g]? = none := by simp [World.setRow, Array.getElem?_modify, hg]
      rw [h, this, hg]
    | some o =>
      cases o with
      | cells c t fr => rw [h, setRow_heap w g c cs t fr hg, hg]
      | _ =>
        rw [h, hg]
        simp [World.setRow, Array.getElem?_modify, hg]
  · rw [setRow_other w g _ cs h]⟩

theorem spliceGet {α : Type} (l new : List α) (p q : Nat) (hp : p ≤ l.length) :
    (l.take p ++ new ++ l.drop (p + new.length))[q]? = if q < p then l[q]? else if q < p + new.length then new[q - p]? else l[q]? := by
  by_cases h1 : q < p
  · rw [if_pos h1, List.append_assoc, List.getElem?_append_left (by rw [List.length_take]; omega), List.getElem?_take, if_pos h1]
  · rw [if_neg h1, List.append_assoc, List.getElem?_append_right (by rw [List.length_take]; omega)]
    have e : (l.take p).length = p := by rw [List.length_take]; omega
    rw [e]
    by_cases h2 : q < p + new.length
    · rw [if_pos h2, List.getElem?_append_left (by omega)]
    · rw [if_neg h2, List.getElem?_append_right (by omega), List.getElem?_drop]
      congr 1; omega

section
variable {E0 : Env} {H0 : List AObj} {w0 : World} {E : Env} {s s' : St} {a : Act} {w : World} {P : Program} {T : TT} {o : Oper}

theorem set_get {α : Type} {l : List α} {i j : Nat} {x y : α} (h : (l.set i x)[j]? = some y) : (i = j ∧ y = x) ∨ (i ≠ j ∧ l[j]? = some y) := by
  rw [List.getElem?_set] at h
  by_cases hij : i = j
  · rw [if_pos hij] at h
    split at h
    · cases h; exact .inl ⟨hij, rfl⟩
    · cases h
  · rw [if_neg hij] at h; exact .inr ⟨hij, h⟩

theorem live_set {H : List AObj} {id j : Nat} {ob ob' : AObj} (hid : H[id]? = some ob) (hne : ob ≠ .dead) (h : Live (H.set id ob') j) : Live H j := by
  obtain ⟨o, ho, hn⟩ := h
  rcases set_get ho with ⟨rfl, _⟩ | ⟨_, ho⟩
  · exact ⟨ob, hid, hne⟩
  · exact ⟨o, ho, hn⟩

theorem Models.writeObj (h : Models E0 H0 w0 E s a w) {id g : Nat} {ob ob' : AObj} {w' : World} (hid : s.hp[id]? = some ob) (hne : ob ≠ .dead) (hg : E.ρ id = some g)
    (ho : Only g w w') (hn : ObjRep E w' id ob') : Models E0 H0 w0 E { s with hp := s.hp.set id ob' } a w' := by
  have hlive : Live s.hp id := ⟨ob, hid, hne⟩
  have hF : ∀ b, E.F b → w'.heap[b]? = w.heap[b]? := fun b hb => ho.block b (fun e => h.heap.fr id g hlive hg (e ▸ hb))
  constructor
  · exact h.size
  · intro t; exact (h.tmps t).mono (Env.Le.refl E) hF
  · refine ⟨by rw [List.length_set]; exact h.heap.len, fun i oi hi => ?_, fun i b hl hb => by rw [ho.size]; exact h.heap.lt i b (live_set hid hne hl) hb, fun i b hl hb => h.heap.fr i b (live_set hid hne hl) hb,
      fun i j b hi hj => h.heap.inj i j b (live_set hid hne hi) (live_set hid hne hj), fun b hb => by rw [ho.size]; exact h.heap.frz b hb⟩
    rcases set_get hi with ⟨rfl, rfl⟩ | ⟨hij, hi⟩
    · exact hn
    · exact (h.heap.obj i oi hi).same hF (fun hne' b hb => ho.block b (fun e => by subst e; exact hij (h.heap.inj id i b hlive ⟨oi, hi, hne'⟩ hg hb)))
  · exact ⟨h.base.1, by rw [List.length_set]; exact h.base.2⟩
  · intro i hi hl; exact h.old i hi (live_set hid hne hl)
  · intro i b hi hl hb; exact h.new i b hi (live_set hid hne hl) hb
  · exact h.F
  · exact h.Fnew
  · refine ⟨ho.os.trans h.keeps.os, ho.tape.trans h.keeps.tape, ho.output.trans h.keeps.output, by rw [ho.size]; exact h.keeps.size, fun b hb hn' => ?_, fun a => (ho.frz a).trans (h.keeps.frz a)⟩
    by_cases hbg : b = g
    · exfalso
      subst hbg
      rcases Nat.lt_or_ge id s.base with hlt | hge
      · obtain ⟨l0, r0, _⟩ := h.old id hlt hlive
        exact hn' ⟨id, l0, by rw [← r0]; exact hg⟩
      · have := h.new id b hge hlive hg; omega
    · rw [ho.block b hbg]; exact h.keeps.block b hb hn'

theorem storeVar_run {t : TypeId} {i : TypeInfo} (hi : P.info? t = some i) (g off : Nat) (ty : TypeId) (v : Value) (cur : Array Value) (hg : w.heap[g]? = some (.cells cur ty (0, 0)))
    (hs : v.cells.size = i.size) (hle : off + v.cells.size ≤ cur.size) (h1 : ∀ u ∈ v.cells.toList, u.oneCell' = true) :
    (storeVar t ⟨g, off, none⟩ v).run P w = .ok () (w.setRow g (cur.toList.take off ++ v.cells.toList ++ cur.toList.drop (off + v.cells.toList.length)).toArray) := by
  have := run_storeCells_at P g off ty v.cells.toList 0 cur w hg (by simpa using hle) h1
  simp only [Nat.add_zero] at this
  simp [storeVar, sizeOf, typeInfo, hi, hs, this]

theorem splice_length (cs new : List AV) (off : Nat) (h : off + new.length ≤ cs.length) : (splice cs off new).length = cs.length := by
  simp only [splice, List.length_append, List.length_take, List.length_drop]; omega

theorem splice_get (cs new : List AV) (off q : Nat) (h : off ≤ cs.length) :
    (splice cs off new)[q]? = if q < off then cs[q]? else if q < off + new.length then new[q - off]? else cs[q]? := spliceGet cs new off q h

theorem all_isFree_isCell {cs : List AV} (h : cs.all isFree = true) : cs.all isCell = true :=
  List.all_eq_true.2 fun c hc => isFree_isCell (List.all_eq_true.1 h c hc)

theorem opStore_sound (hT : TTOk P T) (h : Models E0 H0 w0 E s a w) {t : TypeId} {x y : Operand} (ho : o.op = .store t x y) (hdst : o.dst = none)
    (hf : opStore T s t (s.ev x) (s.ev y) = some s') (hc : s'.cond) : s.cond ∧ Done P o E0 H0 w0 s' a w := by
  simp only [opStore, Option.bind_eq_some_iff] at hf
  obtain ⟨ts, hts, hf⟩ := hf
  obtain ⟨_, ⟨i, d, z, hi, hu, hsz, hby, hk, _⟩⟩ := hT t ts hts
  have hx := h.ev x
  have hy := h.ev y
  have hput : ∀ v, a.put o.dst v = a := fun v => by rw [hdst]; rfl
  cases hq : Nat.beq (cellsOf (s.ev y)).length ts.size with
  | false => rw [hq] at hf; cases hf
  | true =>
    rw [hq, cond_true] at hf
    have hlen := Nat.eq_of_beq_eq_true hq
    have exec : ∀ b off w', a.eval x = .pointer (some ⟨b, off, none⟩) → (storeVar t ⟨b, off, none⟩ (a.eval y)).run P w = .ok () w' → (execOp a.eval o).run P w = .ok .skip w' := by
      intro b off w' hax hrun
      simp [execOp, ho, hax, Instr.storeAt, Instr.sureAddr, hrun]
    have one : ∀ {cs : List AV}, cs = cellsOf (s.ev y) → cs.all isCell = true → ∀ u ∈ (a.eval y).cells.toList, u.oneCell' = true := by
      intro cs hcs hall u hu'
      subst hcs
      obtain ⟨h1, h2⟩ := cellsOf_rep hy hall
      obtain ⟨j, hj, rfl⟩ := List.mem_iff_getElem.1 hu'
      have hj' : j < (cellsOf (s.ev y)).length := by rw [← h1]; simpa using hj
      obtain ⟨g1, u, g2, g3⟩ := h2 j _ (List.getElem?_eq_getElem hj')
      have := g3.oneCell g1
      rw [Array.getElem?_eq_some_iff] at g2
      obtain ⟨_, g2⟩ := g2
      simp only [Array.getElem_toList]; rw [g2]; exact this
    cases hv : s.ev x with
    | hptr id idx off =>
      rw [hv] at hf hx
      simp only at hf
      cases hid : s.hp[id]? with
      | none => rw [hid] at hf; cases hf
      | some ob =>
        cases ob with
        | arr sz n row =>
          rw [hid] at hf
          simp only at hf
          cases hb : (Nat.ble (off + ts.size) sz && (cellsOf (s.ev y)).all isFree) with
          | false => rw [hb] at hf; cases hf
          | true =>
            rw [hb, cond_true, Option.some.injEq] at hf
            subst hf
            rw [Bool.and_eq_true] at hb
            have hle := Nat.le_of_ble_eq_true hb.1
            have hcell := all_isFree_isCell hb.2
            obtain ⟨hc1, hidx⟩ := hc
            refine ⟨hc1, ?_⟩
            obtain ⟨f1, f2, f3, f4, f5, f6⟩ := h.heap.obj id _ hid
            generalize hax : a.eval x = ax at hx
            cases hx with
            | fz _ _ hx => cases hx
            | hptr _ _ _ g _ hg =>
              rw [hg] at f6
              obtain ⟨arr, ty, g1, g2, g3⟩ := f6
              obtain ⟨c1, c2⟩ := cellsOf_rep hy hcell
              have hpos : (E.ω id + idx) * sz + sz ≤ arr.size := by
                have : (E.ω id + idx + 1) * sz ≤ (E.ω id + E.κ id) * sz := Nat.mul_le_mul_right _ (by omega)
                rw [Nat.add_mul, Nat.one_mul] at this
                omega
              rw [f1] at hax
              have hrun := storeVar_run (w := w) hi g ((E.ω id + idx) * sz + off) ty (a.eval y) arr g1 (by rw [c1, hlen, hsz]) (by omega) (one rfl hcell)
              refine ⟨_, _, E, exec _ _ _ hax hrun, ?_⟩
              simp only
              rw [hput]
              have honly := Only.setRow w g (arr.toList.take ((E.ω id + idx) * sz + off) ++ (a.eval y).cells.toList ++ arr.toList.drop ((E.ω id + idx) * sz + off + (a.eval y).cells.toList.length)).toArray
              refine Models.cond (h.writeObj hid (by simp) hg honly ?_) _
              have hlive : Live s.hp id := ⟨_, hid, by simp⟩
              have hF : ∀ bb, E.F bb → (w.setRow g (arr.toList.take ((E.ω id + idx) * sz + off) ++ (a.eval y).cells.toList ++ arr.toList.drop ((E.ω id + idx) * sz + off + (a.eval y).cells.toList.length)).toArray).heap[bb]? = w.heap[bb]? :=
                fun bb hbb => honly.block bb (fun e => h.heap.fr id g hlive hg (e ▸ hbb))
              have hrl := f5 idx hidx
              refine ArrRep.fz (row := setRow idx off (cellsOf (s.ev y)) row) ⟨f1, f2, f3, f4, fun i' hi' => ?_, ?_⟩
              · by_cases hii : i' = idx
                · simp only [setRow, hii, if_true]; rw [splice_length _ _ _ (by omega)]; exact hrl
                · simp only [setRow, hii, if_false]; exact f5 i' hi'
              · rw [hg]
                refine ⟨_, ty, setRow_heap _ _ _ _ _ _ g1, ?_, fun i' j c hi' hj => ?_⟩
                · simp only [List.size_toArray, List.length_append, List.length_take, List.length_drop, Array.length_toList]
                  rw [c1]; omega
                · rw [List.getElem?_toArray, spliceGet _ _ _ _ (by rw [Array.length_toList]; omega)]
                  have el : (a.eval y).cells.toList.length = (cellsOf (s.ev y)).length := by simpa using c1
                  rw [el] at hF ⊢
                  by_cases hii : i' = idx
                  · subst hii
                    simp only [setRow, if_true] at hj
                    rw [splice_get _ _ _ _ (by omega)] at hj
                    by_cases q1 : j < off
                    · rw [if_pos q1] at hj
                      rw [if_pos (by omega)]
                      obtain ⟨v, e2, e3⟩ := g3 i' j c hi' hj
                      exact ⟨v, by simpa using e2, e3.mono (fun _ h => h) hF⟩
                    · rw [if_neg q1] at hj
                      rw [if_neg (by omega)]
                      by_cases q2 : j < off + (cellsOf (s.ev y)).length
                      · rw [if_pos q2] at hj
                        rw [if_pos (by omega)]
                        obtain ⟨e1, v, e2, e3⟩ := c2 _ c hj
                        refine ⟨v, ?_, (e3.toF (List.all_eq_true.1 hb.2 c (List.mem_of_getElem? hj))).mono (fun _ h => h) hF⟩
                        rw [show (E.ω id + i') * sz + j - ((E.ω id + i') * sz + off) = j - off by omega]
                        simpa using e2
                      · rw [if_neg q2] at hj
                        rw [if_neg (by omega)]
                        obtain ⟨v, e2, e3⟩ := g3 i' j c hi' hj
                        exact ⟨v, by simpa using e2, e3.mono (fun _ h => h) hF⟩
                  · simp only [setRow, hii, if_false] at hj
                    obtain ⟨v, e2, e3⟩ := g3 i' j c hi' hj
                    have hjl : j < sz := by
                      rw [← f5 i' hi']
                      rcases Nat.lt_or_ge j (row i').length with q | q
                      · exact q
                      · rw [List.getElem?_eq_none q] at hj; cases hj
                    refine ⟨v, ?_, e3.mono (fun _ h => h) hF⟩
                    rcases Nat.lt_or_ge i' idx with q | q
                    · have : (E.ω id + i' + 1) * sz ≤ (E.ω id + idx) * sz := Nat.mul_le_mul_right _ (by omega)
                      rw [Nat.add_mul, Nat.one_mul] at this
                      rw [if_pos (by omega)]; simpa using e2
                    · have : (E.ω id + idx + 1) * sz ≤ (E.ω id + i') * sz := Nat.mul_le_mul_right _ (by omega)
                      rw [Nat.add_mul, Nat.one_mul] at this
                      rw [if_neg (by omega), if_neg (by omega)]; simpa using e2
        | var cs =>
          rw [hid] at hf
          simp only at hf
          cases hb : (Nat.beq idx 0 && Nat.ble (off + ts.size) cs.length && (cellsOf (s.ev y)).all isCell) with
          | false => rw [hb] at hf; cases hf
          | true =>
            rw [hb, cond_true, Option.some.injEq] at hf
            subst hf
            rw [Bool.and_eq_true, Bool.and_eq_true] at hb
            have hi0 := Nat.eq_of_beq_eq_true hb.1.1
            subst hi0
            have hle := Nat.le_of_ble_eq_true hb.1.2
            refine ⟨hc, ?_⟩
            obtain ⟨h0, b, arr, ty, hρ, g1, g2, g3⟩ := h.heap.obj id _ hid
            generalize hax : a.eval x = ax at hx
            cases hx with
            | fz _ _ hx => cases hx
            | hptr _ _ _ g _ hg =>
              rw [hρ] at hg; cases hg
              rw [h0, Nat.zero_add, Nat.zero_mul, Nat.zero_add] at hax
              obtain ⟨c1, c2⟩ := cellsOf_rep hy hb.2
              have hrun := storeVar_run (w := w) hi b off ty (a.eval y) arr g1 (by rw [c1, hlen, hsz]) (by omega) (one rfl hb.2)
              refine ⟨_, _, E, exec _ _ _ hax hrun, ?_⟩
              simp only
              rw [hput]
              have honly := Only.setRow w b (arr.toList.take off ++ (a.eval y).cells.toList ++ arr.toList.drop (off + (a.eval y).cells.toList.length)).toArray
              have hlive : Live s.hp id := ⟨_, hid, by simp⟩
              refine h.writeObj hid (by simp) hρ honly ⟨h0, b, _, ty, hρ, setRow_heap _ _ _ _ _ _ g1, ?_, fun j c hj => ?_⟩
              · simp only [List.size_toArray, List.length_append, List.length_take, List.length_drop, Array.length_toList]
                rw [splice_length _ _ _ (by omega)]; omega
              · rw [splice_get _ _ _ _ (by omega)] at hj
                have hF : ∀ bb, E.F bb → (w.setRow b (arr.toList.take off ++ (a.eval y).cells.toList ++ arr.toList.drop (off + (a.eval y).cells.toList.length)).toArray).heap[bb]? = w.heap[bb]? :=
                  fun bb hbb => honly.block bb (fun e => h.heap.fr id b hlive hρ (e ▸ hbb))
                rw [List.getElem?_toArray, spliceGet _ _ _ _ (by rw [Array.length_toList]; omega)]
                have el : (a.eval y).cells.toList.length = (cellsOf (s.ev y)).length := by simpa using c1
                rw [el] at hF ⊢
                by_cases q1 : j < off
                · rw [if_pos q1] at hj ⊢
                  obtain ⟨e1, v, e2, e3⟩ := g3 j c hj
                  exact ⟨e1, v, by simpa using e2, e3.mono (Env.Le.refl E) hF⟩
                · rw [if_neg q1] at hj ⊢
                  by_cases q2 : j < off + (cellsOf (s.ev y)).length
                  · rw [if_pos q2] at hj ⊢
                    obtain ⟨e1, v, e2, e3⟩ := c2 _ c hj
                    exact ⟨e1, v, by simpa using e2, e3.mono (Env.Le.refl E) hF⟩
                  · rw [if_neg q2] at hj ⊢
                    obtain ⟨e1, v, e2, e3⟩ := g3 j c hj
                    exact ⟨e1, v, by simpa using e2, e3.mono (Env.Le.refl E) hF⟩
        | _ => rw [hid] at hf; cases hf
    | _ => rw [hv] at hf; cases hf

end
end Go.Av

/- The Av framework: slices.SortFunc, by the library's contract. No law of the program is proved here. -/
import Derived.Test.YtaebdeidbibfkaaDoorHAvM10
import Derived.Shelf.SlSortCmp.WholeK
set_option linter.unusedSimpArgs false
set_option linter.unusedVariables false
set_option linter.unusedSectionVars false
namespace Go.Av
open Go.Proofs Go.Shelf Go.RowKit Go.Lib

theorem enters_fn {P : Program} {g : FuncId} (h : Fn P g) (args : Array Value) (w : World) : (callFunc g args).run P w = .ok (.enter g args) w := by
  obtain ⟨fn, hfn, hbody, hname⟩ := h
  unfold callFunc
  simp only [Sem.run_bind, run_program, Result.andThen, hfn]
  have hb : fn.body.isNone = false := by cases hbb : fn.body with | none => rw [hbb] at hbody; cases hbody | some _ => rfl
  have hnn : (fn.name == "runtime.NumGoroutine") = false := by simpa using hname
  rw [hnn, hb]
  rfl

theorem run_isAgg_of {P : Program} {w : World} {t : TypeId} {ts : TS} (hT : TOk P t ts) (ha : ts.isAgg = true) : (isAgg t).run P w = .ok true w := by
  obtain ⟨_, i, d, z, hi, hu, hsz, hby, hk, _⟩ := hT
  unfold TS.isAgg at ha
  cases hkk : ts.kind with
  | struct fs => rw [hkk] at hk; obtain ⟨f, rfl, _⟩ := hk; simp [isAgg, run_underlying hu]
  | array n e => rw [hkk] at hk; cases hk; simp [isAgg, run_underlying hu]
  | _ => rw [hkk] at ha; cases ha

section
variable {α : Type} [Inhabited α] (enc : α → List Value) (k : Nat) (w : World) (blk off m : Nat) (dk : Array α) (os : Array Obj)

theorem sortW_size : (sortWorldK enc k w blk off m dk os).heap.size = w.heap.size + os.size := by
  unfold sortWorldK Go.Sort.putRowK
  rw [Go.Sort.size_grow, Go.Sort.size_putRow]; rfl

theorem sortW_old {b : Nat} (h : b < w.heap.size) : (sortWorldK enc k w blk off m dk os).heap[b]? = (w.heap.modify blk (Go.Sort.onCells (Go.Sort.putCells id off (Go.Sort.flatK enc k dk))))[b]? := by
  unfold sortWorldK Go.Sort.putRowK
  rw [Go.Sort.heap_grow_old _ _ (by rw [Go.Sort.size_putRow]; exact h)]
  rfl

theorem sortW_block {b : Nat} (h : b < w.heap.size) (hne : b ≠ blk) : (sortWorldK enc k w blk off m dk os).heap[b]? = w.heap[b]? := by
  rw [sortW_old enc k w blk off m dk os h, Array.getElem?_modify, if_neg (fun e => hne e.symm)]

theorem sortW_row {arr : Array Value} {ty : TypeId} {fr : Nat × Nat} (h : w.heap[blk]? = some (.cells arr ty fr)) : (sortWorldK enc k w blk off m dk os).heap[blk]? = some (.cells (Go.Sort.putCells id off (Go.Sort.flatK enc k dk) arr) ty fr) := by
  have hb : blk < w.heap.size := by
    rcases Nat.lt_or_ge blk w.heap.size with g | g
    · exact g
    · rw [Array.getElem?_eq_none g] at h; cases h
  rw [sortW_old enc k w blk off m dk os hb, Array.getElem?_modify, if_pos rfl, h]; rfl

theorem sortW_frozen {a : Addr} (h : a.block < w.heap.size) : (sortWorldK enc k w blk off m dk os).frozen? a = w.frozen? a := by
  unfold sortWorldK Go.Sort.putRowK
  rw [Go.Sort.frozen?_grow _ _ _ (by rw [Go.Sort.size_putRow]; exact h), Go.Sort.frozen?_putRow]
  rfl
end

/-- A world that keeps all that was there has grown, and has drawn. -/
theorem grown_of {O : Nat → Prop} {w w' : World} (h : Keeps O w w') (hO : ∀ b, ¬ O b) (hd : DrawnOn) : ∃ q os, w' = Go.Sort.grow (w.drewN q) os := by
  refine ⟨w'.drawn - w.drawn, w'.heap.extract w.heap.size w'.heap.size, ?_⟩
  have h1 : w'.heap = w.heap ++ w'.heap.extract w.heap.size w'.heap.size := by
    apply Array.ext_getElem?
    intro i
    rw [Array.getElem?_append]
    split
    · rename_i hi; exact h.block i hi (hO i)
    · rename_i hi
      rw [Array.getElem?_extract]
      have hs := h.size
      split
      · congr 1; omega
      · exact Array.getElem?_eq_none (by omega)
  have h2 : w'.drawn = w.drawn + (w'.drawn - w.drawn) := by have := h.drawn hd; omega
  have e1 := h.os; have e2 := h.tape; have e3 := h.output
  cases w' with
  | mk hp tp dr o out =>
    simp only at e1 e2 e3 h1 h2
    subst e1; subst e2; subst e3
    unfold Go.Sort.grow World.drewN
    simp only
    rw [← h1, ← h2]

/-- slices.SortFunc on a slice of structs that the caller owns. -/
theorem conH_sort {P : Program} {G : List (Nat × AV)} {ρ : Ren} (L : SlLaysF0.n6 P ρ) {te : TS} (hT : TOk P (ρ.t 24) te) (hag : te.isAgg = true) {β : Type} (c : β → List AV) (hc : ∀ x, (c x).length = te.size)
    (hfn : Fn P (ρ.f 6)) (g : FuncId) (cf : β → β → Option Int) (hcf : ∀ a b r, cf a b = some r → Con P G g [.agg (c a), .agg (c b)] (.int .i64 r) []) (hdr : DrawnOn) (l r : List β) (h : sortM cf l = some r) :
    ConH P G (ρ.f 6) [.sl 0 0 l.length, .clos g [] []] [.arr te.size l.length (rw (l.map c))] (.tup []) [.arr te.size l.length (rw (r.map c))] := by
  refine ⟨hfn, fun E w vals hh hg ha => ?_⟩
  obtain ⟨x0, x1, rfl, h0, h1⟩ := args_two ha
  unfold sortM at h
  cases hb0 : (Nat.ble 1 l.length && (Nat.ble l.length 1000000000 && sortOk cf l)) with
  | false => rw [hb0] at h; cases h
  | true =>
  rw [hb0, cond_true, Option.some.injEq] at h
  rw [Bool.and_eq_true, Bool.and_eq_true, sortOk_iff] at hb0
  obtain ⟨hn1, hn2, hs⟩ := hb0
  have hn1 := Nat.le_of_ble_eq_true hn1
  have hn2 := Nat.le_of_ble_eq_true hn2
  have hobj : ArrRep E w 0 te.size l.length (rw (l.map c)) := hh.obj 0 _ rfl
  obtain ⟨hσ, hpos, hκ, hκm, hrow, hm⟩ := hobj
  cases hρ : E.ρ 0 with
  | none => rw [hρ] at hm; omega
  | some b =>
  rw [hρ] at hm
  obtain ⟨arr, ty, hblk, hsz, hcell⟩ := hm
  have hlive : Live [AObj.arr te.size l.length (rw (l.map c))] 0 := ⟨_, rfl, by simp⟩
  have hbw : b < w.heap.size := hh.lt 0 b hlive hρ
  have hbF : ¬ E.F b := hh.fr 0 b hlive hρ
  have hx0 : x0 = .slice (some ⟨b, E.ω 0 * te.size, none⟩) l.length (E.κ 0) := by
    cases h0 with
    | fz _ _ q => cases q
    | sl _ _ _ av hi h hav =>
      have := hav (by omega)
      rw [hρ, hσ] at this
      rw [this]; simp
  have hx1 : x1 = .func (.func g) #[] #[] := by
    cases h1 with
    | fz _ _ q => cases q
    | clos _ _ _ xa xc hxa hxc _ _ =>
      have e1 : xa = [] := by simpa using hxa
      have e2 : xc = [] := by simpa using hxc
      subst e1; subst e2; rfl
  subst hx0; subst hx1
  have hgt : ∀ i : _root_.Fin l.length, rw (l.map c) i = c l[i] := fun i => rw_map (by simp)
  haveI : Inhabited (_root_.Fin l.length) := ⟨⟨0, hn1⟩⟩
  let enc : _root_.Fin l.length → List Value := fun i => (List.range te.size).map fun j => arr.getD ((E.ω 0 + i) * te.size + j) default
  have henc : ∀ (i : _root_.Fin l.length) (j : Nat), j < te.size → (enc i).getD j default = arr.getD ((E.ω 0 + i) * te.size + j) default := fun i j hj => by
    simp [enc, List.getD, hj]
  have hk : ∀ x, (enc x).length = te.size := fun x => by simp [enc]
  have hin : ∀ i j : Nat, i < l.length → j < te.size → (E.ω 0 + i) * te.size + j < arr.size := fun i j hi hj => by
    have : (E.ω 0 + i + 1) * te.size ≤ (E.ω 0 + E.κ 0) * te.size := Nat.mul_le_mul_right _ (by omega)
    rw [Nat.add_mul _ 1, Nat.one_mul] at this
    omega
  have hval : ∀ (i : _root_.Fin l.length) (j : Nat) (cc : AV), (c l[i])[j]? = some cc → arr[(E.ω 0 + i) * te.size + j]? = some ((enc i).getD j default) ∧ RepF E.F w cc ((enc i).getD j default) := fun i j cc hj => by
    obtain ⟨v, e1, e2⟩ := hcell i j cc i.2 (by rw [hgt]; exact hj)
    have hjl : j < te.size := by rw [← hc l[i]]; exact get_lt hj
    have : (enc i).getD j default = v := by rw [henc i j hjl, Array.getD_eq_getD_getElem?, e1]; rfl
    rw [this]; exact ⟨e1, e2⟩
  have hone : ∀ x, ∀ v ∈ enc x, v.oneCell' = true := fun x v hv => by
    obtain ⟨j, hj, e⟩ := List.mem_iff_getElem.1 hv
    have hjl : j < te.size := by rw [← hk x]; exact hj
    obtain ⟨cc, hcc⟩ : ∃ cc, (c l[x])[j]? = some cc := ⟨_, List.getElem?_eq_getElem (l := c l[x]) (show j < (c l[x]).length by rw [hc]; exact hjl)⟩
    have := (hval x j cc hcc).2.oneCell
    have e2 : (enc x).getD j default = v := by rw [List.getD_eq_getElem?_getD, List.getElem?_eq_getElem hj, e]; rfl
    rw [e2] at this; exact this
  let d : Array (_root_.Fin l.length) := Array.ofFn id
  have hds : d.size = l.length := by simp [d]
  have hdg : ∀ (i : Nat) (hi : i < l.length), d[i]! = ⟨i, hi⟩ := fun i hi => by
    rw [getElem!_pos d i (by rw [hds]; exact hi)]; simp [d]
  let off := E.ω 0 * te.size
  have hflat : ∀ (dk : Array (_root_.Fin l.length)) (i j : Nat), i < dk.size → j < te.size → (Go.Sort.flatK enc te.size dk)[i * te.size + j]! = (enc dk[i]!).getD j default := fun dk i j hi hj => by
    have hlt : i * te.size + j < dk.size * te.size := by
      have : (i + 1) * te.size ≤ dk.size * te.size := Nat.mul_le_mul_right _ hi
      rw [Nat.add_mul, Nat.one_mul] at this; omega
    rw [Go.Sort.get_flatK enc te.size dk _ hlt]
    have e1 : (i * te.size + j) / te.size = i := by rw [Nat.mul_comm, Nat.mul_add_div hpos, Nat.div_eq_of_lt hj]; rfl
    have e2 : (i * te.size + j) % te.size = j := by rw [Nat.mul_comm, Nat.mul_add_mod, Nat.mod_eq_of_lt hj]
    rw [e1, e2, List.getD_eq_getElem?_getD, List.getElem!_eq_getElem?_getD]
  have hH : Go.Sort.HoldsK enc te.size w b off d := by
    intro t ht
    rw [Go.Sort.size_flatK, hds] at ht
    obtain ⟨q, s, rfl, hs1⟩ : ∃ q s, t = q * te.size + s ∧ s < te.size := ⟨t / te.size, t % te.size, (Nat.div_add_mod' t te.size).symm, Nat.mod_lt _ hpos⟩
    have hq : q < l.length := by
      rcases Nat.lt_or_ge q l.length with g | g
      · exact g
      · have := Nat.mul_le_mul_right te.size g; omega
    rw [hflat d q s (by rw [hds]; exact hq) hs1, hdg q hq, henc _ _ hs1]
    have e : off + (q * te.size + s) = (E.ω 0 + q) * te.size + s := by simp only [off]; rw [Nat.add_mul]; omega
    have hl := hin q s hq hs1
    constructor
    · unfold World.cell?
      simp only [hblk, e]
      simp [Array.getD, hl]
    · unfold World.frozen?
      simp only [hblk]
      simp
  -- the worlds that the sort passes through
  have hF : ∀ (m : Nat) (os : Array Obj) (dk : Array (_root_.Fin l.length)), ∀ b', E.F b' → (sortWorldK enc te.size w b off m dk os).heap[b']? = w.heap[b']? := fun m os dk b' hb' =>
    sortW_block enc te.size w b off m dk os (hh.frz b' hb') (fun e => hbF (e ▸ hb'))
  let cf' : _root_.Fin l.length → _root_.Fin l.length → Int := fun i j => (cf l[i] l[j]).getD 0
  have hcf' : ∀ i j, cf l[i] l[j] = some (cf' i j) := fun i j => by
    obtain ⟨q, e⟩ := hs.tot l[i] (List.getElem_mem _) l[j] (List.getElem_mem _)
    simp only [cf', e, Option.getD_some]
  have hlt : ∀ i j, ltOf cf' i j = ltM cf l[i] l[j] := fun i j => by
    simp only [ltOf, ltM, hcf']
  have hO : Go.Sort.SWO (ltOf cf') := by
    refine ⟨fun x => ?_, fun x y z h1 h2 => ?_, fun x y z h1 h2 => ?_⟩
    · rw [hlt]; exact hs.irr _ (List.getElem_mem _)
    · rw [hlt] at h1 h2 ⊢; exact hs.tr _ (List.getElem_mem _) _ (List.getElem_mem _) _ (List.getElem_mem _) h1 h2
    · rw [hlt] at h1 h2 ⊢; exact hs.ntr (List.getElem_mem _) (List.getElem_mem _) (List.getElem_mem _) h1 h2
  have hgf : Fn P g := (hcf _ _ _ (hcf' ⟨0, hn1⟩ ⟨0, hn1⟩)).fn
  have hcmp : CmpLays P g #[] enc te.size cf' b off d.size w := by
    intro m os dk hdk x y
    have hcon := (hcf _ _ _ (hcf' x y)).calls
    have hsz' := sortW_size enc te.size w b off m dk os
    have := hcon { E with N := 0 } (sortWorldK enc te.size w b off m dk os) [.agg (enc x).toArray, .agg (enc y).toArray] ?_ ?_ ?_
    · rw [Array.append_empty]
      refine Calls.mono this fun e w' he => ?_
      cases e with
      | returned v =>
        obtain ⟨r', H', E', ⟨rfl, rfl⟩, hr, haf⟩ := he
        have : v = .int .i64 (cf' x y) := by
          cases hr with
          | fz _ _ q => cases q; rfl
        subst this
        refine ⟨rfl, ?_⟩
        exact grown_of haf.keeps (fun b' ⟨id, ⟨o, ho, _⟩, _⟩ => by simp at ho) hdr
      | _ => exact False.elim he
    · refine ⟨rfl, fun id o ho => by simp at ho, fun id b' ⟨o, ho, _⟩ => by simp at ho, fun id b' ⟨o, ho, _⟩ => by simp at ho, fun i j b' ⟨o, ho, _⟩ => by simp at ho, fun b' hb' => ?_⟩
      have := hh.frz b' hb'
      omega
    · intro gq
      rcases hg gq with q | q
      · exact .inl q
      · exact .inr (q.mono (fun _ h => h) fun b' hb' => hF m os dk b' hb')
    · refine ⟨rfl, fun i cc hi => ?_⟩
      have hag : ∀ z : _root_.Fin l.length, Rep { E with N := 0 } (sortWorldK enc te.size w b off m dk os) (.agg (c l[z])) (.agg (enc z).toArray) := fun z => by
        refine .agg _ _ (by rw [hk, hc]) fun j cc hj => ?_
        exact .fz _ _ ((hval z j cc hj).2.mono (fun _ h => h) fun b' hb' => hF m os dk b' hb')
      match i, hi with
      | 0, hi => simp at hi; subst hi; exact hag x
      | 1, hi => simp at hi; subst hi; exact hag y
      | i + 2, hi => simp at hi
  have hcall := AnyQ.slices_SortFunc L te.size (fun w => run_isAgg_of hT hag) (fun w => run_sizeOf hT) enc hk hone cf' hO g #[] b off (E.κ 0) d w (fun args w => enters_fn hgf args w) hcmp hH hbw (by rw [hds]; omega)
  rw [hds] at hcall
  refine hcall.mono fun e w' ⟨he, d', m, os, hp, hso, hw'⟩ => ?_
  subst he
  obtain ⟨hp1, hp2, hp3⟩ := hp
  rw [hds] at hp1
  -- what the row holds
  have hd's : d'.toList.length = l.length := by simpa using hp1
  have hperm : (d'.toList.map fun i => l[i]).Perm l := by
    have e1 : (d'.extract 0 l.length).toList = d'.toList := by simp [← hp1]
    have e2 : (d.extract 0 l.length).toList = d.toList := by simp [← hds]
    rw [e1, e2] at hp3
    have e3 : (d.toList.map fun i => l[i]) = l := by
      refine List.ext_getElem (by simp [hds]) fun i h1 h2 => ?_
      simp [d]
    have := hp3.map fun i : _root_.Fin l.length => l[i]
    rwa [e3] at this
  have hasc : AscM cf (d'.toList.map fun i => l[i]) := by
    refine List.pairwise_iff_getElem.2 fun i j hi hj hij => ?_
    have hi' : i < d'.size := by simpa using hi
    have hj' : j < d'.size := by simpa using hj
    have := hso i j (Nat.zero_le _) hij (by omega)
    rw [getElem!_pos d' i hi', getElem!_pos d' j hj', hlt] at this
    simpa using this
  have hres : (d'.toList.map fun i => l[i]) = r := by
    rw [← h]
    exact hs.unique (fun x hx => hperm.subset hx) (hperm.trans (isortM_perm _ l).symm) hasc hs.asc
  have hrl : r.length = l.length := by rw [← hres]; simp [hp1]
  have hrg0 : ∀ (i : Nat) (hi : i < l.length) (q : _root_.Fin l.length), d'[i]! = q → rw (r.map c) i = c l[q] := fun i hi q hq => by
    have hi' : i < d'.size := by omega
    refine rw_map ?_
    have e0 : d'.toList[i]? = some q := by
      rw [← hq, getElem!_pos d' i hi']
      simp [hi']
    have e1 : (d'.toList.map fun i => l[i])[i]? = some l[q] := by
      rw [List.getElem?_map, e0]; rfl
    rw [hres] at e1
    exact e1
  have hrg := fun (i : Nat) (hi : i < l.length) => hrg0 i hi _ rfl
  have hF' : ∀ b', E.F b' → w'.heap[b']? = w.heap[b']? := fun b' hb' => by rw [hw']; exact hF m os d' b' hb'
  have hkeep : Keeps (Owned E [AObj.arr te.size l.length (rw (l.map c))]) w w' := by
    rw [hw']
    refine ⟨rfl, rfl, rfl, by rw [sortW_size]; omega, fun b' hb' hn => sortW_block enc te.size w b off m d' os hb' (fun e => hn ⟨0, hlive, by rw [hρ, e]⟩), fun a ha => sortW_frozen enc te.size w b off m d' os ha, fun _ => ?_⟩
    show w.drawn ≤ w.drawn + m
    omega
  have hrow' : w'.heap[b]? = some (.cells (Go.Sort.putCells id off (Go.Sort.flatK enc te.size d') arr) ty (0, 0)) := by rw [hw']; exact sortW_row enc te.size w b off m d' os hblk
  refine ⟨.tup [], [.arr te.size l.length (rw (r.map c))], E, ⟨rfl, rfl⟩, .tup [] [] rfl (by simp), ?_⟩
  have hl1 : ∀ id, Live [AObj.arr te.size l.length (rw (r.map c))] id → id = 0 := fun id ⟨o, ho, _⟩ => by
    match id, ho with
    | 0, _ => rfl
    | id + 1, ho => simp at ho
  refine ⟨⟨hh.len, fun id o ho => ?_, fun id b' hl e => ?_, fun id b' hl e => ?_, fun i j b' hi hj _ _ => by rw [hl1 i hi, hl1 j hj], fun b' hb' => Nat.lt_of_lt_of_le (hh.frz b' hb') hkeep.size⟩, hkeep, fun _ h => h, fun _ h => .inl h, Nat.le_refl _, fun id hi => ⟨fun hl => ?_, rfl, rfl, rfl, rfl⟩, fun id b' hi hl _ => ?_⟩
  · match id, ho with
    | id + 1, ho => simp at ho
    | 0, ho =>
    simp at ho; subst ho
    refine ⟨hσ, hpos, hκ, hκm, fun i hi => by rw [hrg i hi]; exact hc _, ?_⟩
    rw [hρ]
    refine ⟨_, ty, hrow', by simpa [Go.Sort.putCells] using hsz, fun i j cc hi hj => ?_⟩
    rw [hrg i hi] at hj
    have hjl : j < te.size := by rw [← hc l[d'[i]!]]; exact get_lt hj
    obtain ⟨e1, e2⟩ := hval d'[i]! j cc hj
    refine ⟨_, ?_, e2.mono (fun _ h => h) hF'⟩
    have hi' : i < d'.size := by omega
    have hlt2 : i * te.size + j < d'.size * te.size := by
      have : (i + 1) * te.size ≤ d'.size * te.size := Nat.mul_le_mul_right _ hi'
      rw [Nat.add_mul, Nat.one_mul] at this; omega
    have hoff : off + (i * te.size + j) = (E.ω 0 + i) * te.size + j := by simp only [off]; rw [Nat.add_mul]; omega
    have hlt3 := hin i j hi hjl
    unfold Go.Sort.putCells
    rw [Array.getElem?_mapIdx, Array.getElem?_eq_getElem hlt3, Option.map_some, if_pos (by rw [Go.Sort.size_flatK]; omega)]
    rw [show (E.ω 0 + i) * te.size + j - off = i * te.size + j by omega, hflat d' i j hi' hjl]
    rfl
  · have e0 := hl1 id hl; subst e0
    rw [hρ] at e; cases e
    exact Nat.lt_of_lt_of_le hbw hkeep.size
  · have e0 := hl1 id hl; subst e0
    rw [hρ] at e; cases e
    exact hbF
  · have e0 := hl1 id hl; subst e0
    exact hlive
  · have e0 := hl1 id hl; subst e0
    simp at hi
end Go.Av

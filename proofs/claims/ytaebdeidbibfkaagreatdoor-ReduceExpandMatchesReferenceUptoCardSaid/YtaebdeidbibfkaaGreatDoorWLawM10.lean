/- The Av framework: slices.SortFunc, by the library's contract. No law of the program is proved here. -/
import Derived.Test.YtaebdeidbibfkaaGreatDoorWAvM9
import Derived.Shelf.SlSortCmp.WholeK
import Derived.Test.YtaebdeidbibfkaaGreatDoorWGMod
set_option linter.unusedSimpArgs false
set_option linter.unusedVariables false
set_option linter.unusedSectionVars false
namespace Go.Av
variable [Drawn]
open Go.Proofs Go.Shelf Go.RowKit Go.Lib

theorem enters_fn {P : Program} {g : FuncId} (h : Fn P g) (args : Array Value) (w : World) : (callFunc g args).run P w = .ok (.enter g args) w := by
  obtain ⟨fn, hfn, hbody, hname⟩ := h
  unfold callFunc
  simp only [Sem.run_bind, run_program, Result.andThen, hfn]
  have hb : fn.body.isNone = false := by cases hbb : fn.body with | none => rw [hbb] at hbody; cases hbody | some _ => rfl
  have hnn : (fn.name == "runtime.NumGoroutine") = false := by simpa using hname
  rw [hnn, hb]
  rfl

theorem run_isAgg_of {P : Program} {w : World} {t : TypeId} {ts : TS} (hT : TOk P t ts) (ha : ts.isAgg = true) : (isAgg t).run P w = .ok true w := by
  obtain ⟨_, i, d, z, hi, hu, hsz, hby, hk, _⟩ := hT
  unfold TS.isAgg at ha
  cases hkk : ts.kind with
  | struct fs => rw [hkk] at hk; obtain ⟨f, rfl, _⟩ := hk; simp [isAgg, run_underlying hu]
  | array n e => rw [hkk] at hk; cases hk; simp [isAgg, run_underlying hu]
  | _ => rw [hkk] at ha; cases ha

section
variable {α : Type} [Inhabited α] (enc : α → List Value) (k : Nat) (w : World) (blk off m : Nat) (dk : Array α) (os : Array Obj)

theorem sortW_size : (sortWorldK enc k w blk off m dk os).heap.size = w.heap.size + os.size := by
  unfold sortWorldK Go.Sort.putRowK
  rw [Go.Sort.size_grow, Go.Sort.size_putRow]; rfl

theorem sortW_old {b : Nat} (h : b < w.heap.size) : (sortWorldK enc k w blk off m dk os).heap[b]? = (w.heap.modify blk (Go.Sort.onCells (Go.Sort.putCells id off (Go.Sort.flatK enc k dk))))[b]? := by
  unfold sortWorldK Go.Sort.putRowK
  rw [Go.Sort.heap_grow_old _ _ (by rw [Go.Sort.size_putRow]; exact h)]
  rfl

theorem sortW_block {b : Nat} (h : b < w.heap.size) (hne : b ≠ blk) : (sortWorldK enc k w blk off m dk os).heap[b]? = w.heap[b]? := by
  rw [sortW_old enc k w blk off m dk os h, Array.getElem?_modify, if_neg (fun e => hne e.symm)]

theorem sortW_row {arr : Array Value} {ty : TypeId} {fr : Nat × Nat} (h : w.heap[blk]? = some (.cells arr ty fr)) : (sortWorldK enc k w blk off m dk os).heap[blk]? = some (.cells (Go.Sort.putCells id off (Go.Sort.flatK enc k dk) arr) ty fr) := by
  have hb : blk < w.heap.size := by
    rcases Nat.lt_or_ge blk w.heap.size with g | g
    · exact g
    · rw [Array.getElem?_eq_none g] at h; cases h
  rw [sortW_old enc k w blk off m dk os hb, Array.getElem?_modify, if_pos rfl, h]; rfl

theorem sortW_frozen {a : Addr} (h : a.block < w.heap.size) : (sortWorldK enc k w blk off m dk os).frozen? a = w.frozen? a := by
  unfold sortWorldK Go.Sort.putRowK
  rw [Go.Sort.frozen?_grow _ _ _ (by rw [Go.Sort.size_putRow]; exact h), Go.Sort.frozen?_putRow]
  rfl
end

/-- A world that keeps all that was there has grown, and has drawn. -/
theorem grown_of0 {w w' : World} (e1 : w'.os = w.os) (e2 : w'.tape = w.tape) (e3 : w'.output = w.output) (hsz : w.heap.size ≤ w'.heap.size) (hbl : ∀ b, b < w.heap.size → w'.heap[b]? = w.heap[b]?) (hdr : w.drawn ≤ w'.drawn) : ∃ q os, w' = Go.Sort.grow (w.drewN q) os := by
  refine ⟨w'.drawn - w.drawn, w'.heap.extract w.heap.size w'.heap.size, ?_⟩
  have h1 : w'.heap = w.heap ++ w'.heap.extract w.heap.size w'.heap.size := by
    apply Array.ext_getElem?
    intro i
    rw [Array.getElem?_append]
    split
    · rename_i hi; exact hbl i hi
    · rename_i hi
      rw [Array.getElem?_extract]
      split
      · congr 1; omega
      · exact Array.getElem?_eq_none (by omega)
  have h2 : w'.drawn = w.drawn + (w'.drawn - w.drawn) := by omega
  cases w' with
  | mk hp tp dr o out =>
    simp only at e1 e2 e3 h1 h2
    subst e1; subst e2; subst e3
    unfold Go.Sort.grow World.drewN
    simp only
    rw [← h1, ← h2]

theorem grown_of {O : Nat → Prop} {w w' : World} (h : @Keeps ⟨True⟩ O w w') (hO : ∀ b, ¬ O b) : ∃ q os, w' = Go.Sort.grow (w.drewN q) os :=
  grown_of0 (@Keeps.os ⟨True⟩ _ _ _ h) (@Keeps.tape ⟨True⟩ _ _ _ h) (@Keeps.output ⟨True⟩ _ _ _ h) (@Keeps.size ⟨True⟩ _ _ _ h) (fun b hb => @Keeps.block ⟨True⟩ _ _ _ h b hb (hO b)) (@Keeps.drawn ⟨True⟩ _ _ _ h trivial)

/-- slices.SortFunc on a slice of structs that the caller owns. -/
theorem conH_sort {P : Program} {G : List (Nat × AV)} {ρ : Ren} (L : SlLaysF0.n6 P ρ) {te : TS} (hT : TOk P (ρ.t 24) te) (hag : te.isAgg = true) {β : Type} (c : β → List AV) (hc : ∀ x, (c x).length = te.size)
    (hfn : Fn P (ρ.f 6)) (g : FuncId) (cf : β → β → Option Int) (hcf : ∀ a b r, cf a b = some r → @Con ⟨True⟩ P G g [.agg (c a), .agg (c b)] (.int .i64 r) []) (l r : List β) (h : sortM cf l = some r) :
    ConH P G (ρ.f 6) [.sl 0 0 l.length, .clos g [] []] [.arr te.size l.length (rw (l.map c))] (.tup []) [.arr te.size l.length (rw (r.map c))] := by
  refine ⟨hfn, fun E w vals hh hg ha => ?_⟩
  obtain ⟨x0, x1, rfl, h0, h1⟩ := args_two ha
  unfold sortM at h
  cases hb0 : (Nat.ble 1 l.length && (Nat.ble l.length 1000000000 && sortOk cf l)) with
  | false => rw [hb0] at h; cases h
  | true =>
  rw [hb0, cond_true, Option.some.injEq] at h
  rw [Bool.and_eq_true, Bool.and_eq_true, sortOk_iff] at hb0
  obtain ⟨hn1, hn2, hs⟩ := hb0
  have hn1 := Nat.le_of_ble_eq_true hn1
  have hn2 := Nat.le_of_ble_eq_true hn2
  have hobj : ArrRep E w 0 te.size l.length (rw (l.map c)) := hh.obj 0 _ rfl
  obtain ⟨hσ, hpos, hκ, hκm, hrow, hm⟩ := hobj
  cases hρ : E.ρ 0 with
  | none => rw [hρ] at hm; omega
  | some b =>
  rw [hρ] at hm
  obtain ⟨arr, ty, hblk, hsz, hcell⟩ := hm
  have hlive : Live [AObj.arr te.size l.length (rw (l.map c))] 0 := ⟨_, rfl, by simp⟩
  have hbw : b < w.heap.size := hh.lt 0 b hlive hρ
  have hbF : ¬ E.F b := hh.fr 0 b hlive hρ
  have hx0 : x0 = .slice (some ⟨b, E.ω 0 * te.size, none⟩) l.length (E.κ 0) := by
    cases h0 with
    | fz _ _ q => cases q
    | sl _ _ _ av hi h hav =>
      have := hav (by omega)
      rw [hρ, hσ] at this
      rw [this]; simp
  have hx1 : x1 = .func (.func g) #[] #[] := by
    cases h1 with
    | fz _ _ q => cases q
    | clos _ _ _ xa xc hxa hxc _ _ =>
      have e1 : xa = [] := by simpa using hxa
      have e2 : xc = [] := by simpa using hxc
      subst e1; subst e2; rfl
  subst hx0; subst hx1
  have hgt : ∀ i : _root_.Fin l.length, rw (l.map c) i = c l[i] := fun i => rw_map (by simp)
  haveI : Inhabited (_root_.Fin l.length) := ⟨⟨0, hn1⟩⟩
  let enc : _root_.Fin l.length → List Value := fun i => (List.range te.size).map fun j => arr.getD ((E.ω 0 + i) * te.size + j) default
  have henc : ∀ (i : _root_.Fin l.length) (j : Nat), j < te.size → (enc i).getD j default = arr.getD ((E.ω 0 + i) * te.size + j) default := fun i j hj => by
    simp [enc, List.getD, hj]
  have hk : ∀ x, (enc x).length = te.size := fun x => by simp [enc]
  have hin : ∀ i j : Nat, i < l.length → j < te.size → (E.ω 0 + i) * te.size + j < arr.size := fun i j hi hj => by
    have : (E.ω 0 + i + 1) * te.size ≤ (E.ω 0 + E.κ 0) * te.size := Nat.mul_le_mul_right _ (by omega)
    rw [Nat.add_mul _ 1, Nat.one_mul] at this
    omega
  have hval : ∀ (i : _root_.Fin l.length) (j : Nat) (cc : AV), (c l[i])[j]? = some cc → arr[(E.ω 0 + i) * te.size + j]? = some ((enc i).getD j default) ∧ RepF E.F w cc ((enc i).getD j default) := fun i j cc hj => by
    obtain ⟨v, e1, e2⟩ := hcell i j cc i.2 (by rw [hgt]; exact hj)
    have hjl : j < te.size := by rw [← hc l[i]]; exact get_lt hj
    have : (enc i).getD j default = v := by rw [henc i j hjl, Array.getD_eq_getD_getElem?, e1]; rfl
    rw [this]; exact ⟨e1, e2⟩
  have hone : ∀ x, ∀ v ∈ enc x, v.oneCell' = true := fun x v hv => by
    obtain ⟨j, hj, e⟩ := List.mem_iff_getElem.1 hv
    have hjl : j < te.size := by rw [← hk x]; exact hj
    obtain ⟨cc, hcc⟩ : ∃ cc, (c l[x])[j]? = some cc := ⟨_, List.getElem?_eq_getElem (l := c l[x]) (show j < (c l[x]).length by rw [hc]; exact hjl)⟩
    have := (hval x j cc hcc).2.oneCell
    have e2 : (enc x).getD j default = v := by rw [List.getD_eq_getElem?_getD, List.getElem?_eq_getElem hj, e]; rfl
    rw [e2] at this; exact this
  let d : Array (_root_.Fin l.length) := Array.ofFn id
  have hds : d.size = l.length := by simp [d]
  have hdg : ∀ (i : Nat) (hi : i < l.length), d[i]! = ⟨i, hi⟩ := fun i hi => by
    rw [getElem!_pos d i (by rw [hds]; exact hi)]; simp [d]
  let off := E.ω 0 * te.size
  have hflat : ∀ (dk : Array (_root_.Fin l.length)) (i j : Nat), i < dk.size → j < te.size → (Go.Sort.flatK enc te.size dk)[i * te.size + j]! = (enc dk[i]!).getD j default := fun dk i j hi hj => by
    have hlt : i * te.size + j < dk.size * te.size := by
      have : (i + 1) * te.size ≤ dk.size * te.size := Nat.mul_le_mul_right _ hi
      rw [Nat.add_mul, Nat.one_mul] at this; omega
    rw [Go.Sort.get_flatK enc te.size dk _ hlt]
    have e1 : (i * te.size + j) / te.size = i := by rw [Nat.mul_comm, Nat.mul_add_div hpos, Nat.div_eq_of_lt hj]; rfl
    have e2 : (i * te.size + j) % te.size = j := by rw [Nat.mul_comm, Nat.mul_add_mod, Nat.mod_eq_of_lt hj]
    rw [e1, e2, List.getD_eq_getElem?_getD, List.getElem!_eq_getElem?_getD]
  have hH : Go.Sort.HoldsK enc te.size w b off d := by
    intro t ht
    rw [Go.Sort.size_flatK, hds] at ht
    obtain ⟨q, s, rfl, hs1⟩ : ∃ q s, t = q * te.size + s ∧ s < te.size := ⟨t / te.size, t % te.size, (Nat.div_add_mod' t te.size).symm, Nat.mod_lt _ hpos⟩
    have hq : q < l.length := by
      rcases Nat.lt_or_ge q l.length with g | g
      · exact g
      · have := Nat.mul_le_mul_right te.size g; omega
    rw [hflat d q s (by rw [hds]; exact hq) hs1, hdg q hq, henc _ _ hs1]
    have e : off + (q * te.size + s) = (E.ω 0 + q) * te.size + s := by simp only [off]; rw [Nat.add_mul]; omega
    have hl := hin q s hq hs1
    constructor
    · unfold World.cell?
      simp only [hblk, e]
      simp [Array.getD, hl]
    · unfold World.frozen?
      simp only [hblk]
      simp
  -- the worlds that the sort passes through
  have hF : ∀ (m : Nat) (os : Array Obj) (dk : Array (_root_.Fin l.length)), ∀ b', E.F b' → (sortWorldK enc te.size w b off m dk os).heap[b']? = w.heap[b']? := fun m os dk b' hb' =>
    sortW_block enc te.size w b off m dk os (hh.frz b' hb') (fun e => hbF (e ▸ hb'))
  let cf' : _root_.Fin l.length → _root_.Fin l.length → Int := fun i j => (cf l[i] l[j]).getD 0
  have hcf' : ∀ i j, cf l[i] l[j] = some (cf' i j) := fun i j => by
    obtain ⟨q, e⟩ := hs.tot l[i] (List.getElem_mem _) l[j] (List.getElem_mem _)
    simp only [cf', e, Option.getD_some]
  have hlt : ∀ i j, ltOf cf' i j = ltM cf l[i] l[j] := fun i j => by
    simp only [ltOf, ltM, hcf']
  have hO : Go.Sort.SWO (ltOf cf') := by
    refine ⟨fun x => ?_, fun x y z h1 h2 => ?_, fun x y z h1 h2 => ?_⟩
    · rw [hlt]; exact hs.irr _ (List.getElem_mem _)
    · rw [hlt] at h1 h2 ⊢; exact hs.tr _ (List.getElem_mem _) _ (List.getElem_mem _) _ (List.getElem_mem _) h1 h2
    · rw [hlt] at h1 h2 ⊢; exact hs.ntr (List.getElem_mem _) (List.getElem_mem _) (List.getElem_mem _) h1 h2
  have hgf : Fn P g := @Con.fn ⟨True⟩ _ _ _ _ _ _ (hcf _ _ _ (hcf' ⟨0, hn1⟩ ⟨0, hn1⟩))
  have hcmp : CmpLays P g #[] enc te.size cf' b off d.size w := by
    intro m os dk hdk x y
    have hcon := @Con.calls ⟨True⟩ _ _ _ _ _ _ (hcf _ _ _ (hcf' x y))
    have hsz' := sortW_size enc te.size w b off m dk os
    have := hcon { E with N := 0 } (sortWorldK enc te.size w b off m dk os) [.agg (enc x).toArray, .agg (enc y).toArray] ?_ ?_ ?_
    · rw [Array.append_empty]
      refine Calls.mono this fun e w' he => ?_
      cases e with
      | returned v =>
        obtain ⟨r', H', E', ⟨rfl, rfl⟩, hr, haf⟩ := he
        have : v = .int .i64 (cf' x y) := by
          cases hr with
          | fz _ _ q => cases q; rfl
        subst this
        refine ⟨rfl, ?_⟩
        exact grown_of (@After.keeps ⟨True⟩ _ _ _ _ _ _ haf) (fun b' ⟨id, ⟨o, ho, _⟩, _⟩ => by simp at ho)
      | _ => exact False.elim he
    · refine ⟨rfl, fun id o ho => by simp at ho, fun id b' ⟨o, ho, _⟩ => by simp at ho, fun id b' ⟨o, ho, _⟩ => by simp at ho, fun i j b' ⟨o, ho, _⟩ => by simp at ho, fun b' hb' => ?_⟩
      have := hh.frz b' hb'
      omega
    · intro gq
      rcases hg gq with q | q
      · exact .inl q
      · exact .inr (q.mono (fun _ h => h) fun b' hb' => hF m os dk b' hb')
    · refine ⟨rfl, fun i cc hi => ?_⟩
      have hag : ∀ z : _root_.Fin l.length, Rep { E with N := 0 } (sortWorldK enc te.size w b off m dk os) (.agg (c l[z])) (.agg (enc z).toArray) := fun z => by
        refine .agg _ _ (by rw [hk, hc]) fun j cc hj => ?_
        exact .fz _ _ ((hval z j cc hj).2.mono (fun _ h => h) fun b' hb' => hF m os dk b' hb')
      match i, hi with
      | 0, hi => simp at hi; subst hi; exact hag x
      | 1, hi => simp at hi; subst hi; exact hag y
      | i + 2, hi => simp at hi
  have hcall := AnyQ.slices_SortFunc L te.size (fun w => run_isAgg_of hT hag) (fun w => run_sizeOf hT) enc hk hone cf' hO g #[] b off (E.κ 0) d w (fun args w => enters_fn hgf args w) hcmp hH hbw (by rw [hds]; omega)
  rw [hds] at hcall
  refine hcall.mono fun e w' ⟨he, d', m, os, hp, hso, hw'⟩ => ?_
  subst he
  obtain ⟨hp1, hp2, hp3⟩ := hp
  rw [hds] at hp1
  -- what the row holds
  have hd's : d'.toList.length = l.length := by simpa using hp1
  have hperm : (d'.toList.map fun i => l[i]).Perm l := by
    have e1 : (d'.extract 0 l.length).toList = d'.toList := by simp [← hp1]
    have e2 : (d.extract 0 l.length).toList = d.toList := by simp [← hds]
    rw [e1, e2] at hp3
    have e3 : (d.toList.map fun i => l[i]) = l := by
      refine List.ext_getElem (by simp [hds]) fun i h1 h2 => ?_
      simp [d]
    have := hp3.map fun i : _root_.Fin l.length => l[i]
    rwa [e3] at this
  have hasc : AscM cf (d'.toList.map fun i => l[i]) := by
    refine List.pairwise_iff_getElem.2 fun i j hi hj hij => ?_
    have hi' : i < d'.size := by simpa using hi
    have hj' : j < d'.size := by simpa using hj
    have := hso i j (Nat.zero_le _) hij (by omega)
    rw [getElem!_pos d' i hi', getElem!_pos d' j hj', hlt] at this
    simpa using this
  have hres : (d'.toList.map fun i => l[i]) = r := by
    rw [← h]
    exact hs.unique (fun x hx => hperm.subset hx) (hperm.trans (isortM_perm _ l).symm) hasc hs.asc
  have hrl : r.length = l.length := by rw [← hres]; simp [hp1]
  have hrg0 : ∀ (i : Nat) (hi : i < l.length) (q : _root_.Fin l.length), d'[i]! = q → rw (r.map c) i = c l[q] := fun i hi q hq => by
    have hi' : i < d'.size := by omega
    refine rw_map ?_
    have e0 : d'.toList[i]? = some q := by
      rw [← hq, getElem!_pos d' i hi']
      simp [hi']
    have e1 : (d'.toList.map fun i => l[i])[i]? = some l[q] := by
      rw [List.getElem?_map, e0]; rfl
    rw [hres] at e1
    exact e1
  have hrg := fun (i : Nat) (hi : i < l.length) => hrg0 i hi _ rfl
  have hF' : ∀ b', E.F b' → w'.heap[b']? = w.heap[b']? := fun b' hb' => by rw [hw']; exact hF m os d' b' hb'
  have hkeep : Keeps (Owned E [AObj.arr te.size l.length (rw (l.map c))]) w w' := by
    rw [hw']
    refine ⟨rfl, rfl, rfl, by rw [sortW_size]; omega, fun b' hb' hn => sortW_block enc te.size w b off m d' os hb' (fun e => hn ⟨0, hlive, by rw [hρ, e]⟩), fun a ha => sortW_frozen enc te.size w b off m d' os ha, fun _ => ?_⟩
    show w.drawn ≤ w.drawn + m
    omega
  have hrow' : w'.heap[b]? = some (.cells (Go.Sort.putCells id off (Go.Sort.flatK enc te.size d') arr) ty (0, 0)) := by rw [hw']; exact sortW_row enc te.size w b off m d' os hblk
  refine ⟨.tup [], [.arr te.size l.length (rw (r.map c))], E, ⟨rfl, rfl⟩, .tup [] [] rfl (by simp), ?_⟩
  have hl1 : ∀ id, Live [AObj.arr te.size l.length (rw (r.map c))] id → id = 0 := fun id ⟨o, ho, _⟩ => by
    match id, ho with
    | 0, _ => rfl
    | id + 1, ho => simp at ho
  refine ⟨⟨hh.len, fun id o ho => ?_, fun id b' hl e => ?_, fun id b' hl e => ?_, fun i j b' hi hj _ _ => by rw [hl1 i hi, hl1 j hj], fun b' hb' => Nat.lt_of_lt_of_le (hh.frz b' hb') hkeep.size⟩, hkeep, fun _ h => h, fun _ h => .inl h, Nat.le_refl _, fun id hi => ⟨fun hl => ?_, rfl, rfl, rfl, rfl⟩, fun id b' hi hl _ => ?_⟩
  · match id, ho with
    | id + 1, ho => simp at ho
    | 0, ho =>
    simp at ho; subst ho
    refine ⟨hσ, hpos, hκ, hκm, fun i hi => by rw [hrg i hi]; exact hc _, ?_⟩
    rw [hρ]
    refine ⟨_, ty, hrow', by simpa [Go.Sort.putCells] using hsz, fun i j cc hi hj => ?_⟩
    rw [hrg i hi] at hj
    have hjl : j < te.size := by rw [← hc l[d'[i]!]]; exact get_lt hj
    obtain ⟨e1, e2⟩ := hval d'[i]! j cc hj
    refine ⟨_, ?_, e2.mono (fun _ h => h) hF'⟩
    have hi' : i < d'.size := by omega
    have hlt2 : i * te.size + j < d'.size * te.size := by
      have : (i + 1) * te.size ≤ d'.size * te.size := Nat.mul_le_mul_right _ hi'
      rw [Nat.add_mul, Nat.one_mul] at this; omega
    have hoff : off + (i * te.size + j) = (E.ω 0 + i) * te.size + j := by simp only [off]; rw [Nat.add_mul]; omega
    have hlt3 := hin i j hi hjl
    unfold Go.Sort.putCells
    rw [Array.getElem?_mapIdx, Array.getElem?_eq_getElem hlt3, Option.map_some, if_pos (by rw [Go.Sort.size_flatK]; omega)]
    rw [show (E.ω 0 + i) * te.size + j - off = i * te.size + j by omega, hflat d' i j hi' hjl]
    rfl
  · have e0 := hl1 id hl; subst e0
    rw [hρ] at e; cases e
    exact Nat.lt_of_lt_of_le hbw hkeep.size
  · have e0 := hl1 id hl; subst e0
    rw [hρ] at e; cases e
    exact hbF
  · have e0 := hl1 id hl; subst e0
    exact hlive
  · have e0 := hl1 id hl; subst e0
    simp at hi
end Go.Av

namespace Go.G
open Go.Av

theorem atI_nat {α : Type} (l : List α) (i : Nat) : atI l (i : Int) = l[i]? := by simp [atI]
theorem wrapN {i : Nat} (h : i ≤ 1000000000000) : IntKind.i64.wrap ((i : Int) + 1) = ((i + 1 : Nat) : Int) := by rw [IntKind.wrap_i64]; omega
theorem wrapI {i : Int} (h0 : -4611686018427387904 ≤ i) (h : i ≤ 9223372036854775807) : IntKind.i64.wrap i = i := by rw [IntKind.wrap_i64]; omega
theorem get_ex {α : Type} {l : List α} {i : Nat} (h : i < l.length) : ∃ x, l[i]? = some x := ⟨l[i], List.getElem?_eq_getElem h⟩
theorem drop_cons {α : Type} {l : List α} {i : Nat} {x : α} (h : l[i]? = some x) : l.drop i = x :: l.drop (i + 1) := by
  obtain ⟨hi, e⟩ := List.getElem?_eq_some_iff.1 h
  rw [List.drop_eq_getElem_cons hi, e]

/-- Induction over trees. -/
theorem tree_ind {P : TreeTree → Prop} (h : ∀ K N ks, (∀ k ∈ ks, P k) → P (.mk K N ks)) : ∀ t, P t := fun t =>
  TreeTree.rec (motive_1 := P) (motive_2 := fun l => ∀ k ∈ l, P k) (fun K N ks ih => h K N ks ih) (by simp) (fun k ks h1 h2 => by
    intro x hx
    rcases List.mem_cons.1 hx with rfl | hx
    · exact h1
    · exact h2 x hx) t

mutual
/-- How many nodes. -/
def szT : TreeTree → Nat
  | .mk _ _ ks => 1 + szL ks
def szL : List TreeTree → Nat
  | [] => 0
  | k :: ks => szT k + szL ks
end
theorem szT_pos (t : TreeTree) : 1 ≤ szT t := by cases t; simp only [szT]; omega
theorem szL_len : ∀ ks : List TreeTree, ks.length ≤ szL ks
  | [] => by simp
  | k :: ks => by have := szL_len ks; have := szT_pos k; simp only [szL, List.length_cons]; omega
theorem szL_mem : ∀ {ks : List TreeTree} {k : TreeTree}, k ∈ ks → szT k ≤ szL ks
  | x :: ks, k, h => by
    rcases List.mem_cons.1 h with rfl | h
    · simp only [szL]; omega
    · have := szL_mem h; simp only [szL]; omega
theorem szT_kids {K N : Int} {ks : List TreeTree} {n : Nat} (h : szT (.mk K N ks) < n) : ∃ m, n = m + 1 ∧ ks.length < m ∧ ∀ k ∈ ks, szT k < m := by
  simp only [szT] at h
  have h1 := szL_len ks
  obtain ⟨m, rfl⟩ : ∃ m, n = m + 1 := ⟨n - 1, by omega⟩
  exact ⟨m, rfl, by omega, fun k hk => by have := szL_mem hk; omega⟩

mutual
/-- The check of a tree: a code and the leaves seen. -/
def chk (many : Int) : TreeTree → List Int → Int × List Int
  | .mk K N ks, l =>
    if K < 0 ∨ K > 2 then (8, l)
    else if K = 0 then (if 0 < ks.length then (2, l) else if N < 0 ∨ N ≥ many then (3, l) else if N ∈ l then (9, l) else (0, l ++ [N]))
    else if N ≠ 0 then (2, l)
    else if ks.length < 2 then (5, l)
    else if ks.any (fun k => k.Kind == K) = true then (14, l)
    else chks many ks l
def chks (many : Int) : List TreeTree → List Int → Int × List Int
  | [], l => (0, l)
  | k :: ks, l => if (chk many k l).1 ≠ 0 then chk many k l else chks many ks (chk many k l).2
end

/-- A set as a map. -/
def mp (l : List Int) : List (Int × Bool) := l.map fun x => (x, true)
theorem mp_get (l : List Int) (x : Int) : (mGet (mp l) x).getD false = decide (x ∈ l) := by
  induction l with
  | nil => simp [mp, mGet]
  | cons a l ih =>
    simp only [mp, List.map_cons, mGet] at ih ⊢
    by_cases h : x = a
    · simp [h]
    · have : (x == a) = false := by simpa using h
      simp [this, ih, h]
theorem mp_put (l : List Int) (x : Int) (h : x ∉ l) : mPut (mp l) x true = mp (l ++ [x]) := by
  induction l with
  | nil => rfl
  | cons a l ih =>
    simp only [List.mem_cons, not_or] at h
    have h1 : (x == a) = false := by simpa using h.1
    have := ih h.2
    simp only [mp, List.map_cons, List.cons_append, mPut, h1, Bool.false_eq_true, if_false] at this ⊢
    rw [this]
theorem mp_len (l : List Int) : (mp l).length = l.length := by simp [mp]

theorem c37_loop (n : Nat) (s : List TreeTree) (b : TreeTree) (hs : s.length ≤ 1000000000) : ∀ (k i : Nat), i ≤ s.length → s.length - i < k →
    ∃ r, slices_IndexFunc_tree_Tree_c92_L1 n s b k (i : Int) = some r ∧ decide (r ≥ 0) = (s.drop i).any fun x => x.Kind == b.Kind
  | 0, i, h, hk => absurd hk (Nat.not_lt_zero _)
  | k + 1, i, h, hk => by
    rw [slices_IndexFunc_tree_Tree_c92_L1]
    by_cases hi : i < s.length
    · obtain ⟨x, hx⟩ := get_ex hi
      rw [if_pos (by simpa using hi), atI_nat, hx, Option.bind_some]
      simp only [tree_Tree_check_1, Option.bind_some]
      rw [drop_cons hx, List.any_cons]
      cases hc : (x.Kind == b.Kind) with
      | true => exact ⟨(i : Int), by simp, by simp⟩
      | false =>
        rw [wrapN (by omega)]
        obtain ⟨r, h1, h2⟩ := c37_loop n s b hs k (i + 1) (by omega) (by omega)
        exact ⟨r, by simpa using h1, by simpa using h2⟩
    · rw [if_neg (by simpa using hi)]
      refine ⟨-1, rfl, ?_⟩
      rw [List.drop_eq_nil_of_le (by omega)]; rfl
theorem c37_eq (n : Nat) (s : List TreeTree) (b : TreeTree) (hs : s.length ≤ 1000000000) (h : s.length < n) : slices_ContainsFunc_tree_Tree_c92 n s b = some (s.any fun x => x.Kind == b.Kind) := by
  obtain ⟨r, h1, h2⟩ := c37_loop n s b hs n 0 (by omega) (by omega)
  simp only [slices_ContainsFunc_tree_Tree_c92, slices_IndexFunc_tree_Tree_c92]
  rw [show (0 : Int) = ((0 : Nat) : Int) from rfl, h1, Option.bind_some]
  rw [List.drop_zero] at h2
  exact congrArg some h2

theorem check_loop (t : TreeTree) (many : Int) (slf : TreeTree → Int → List (Int × Bool) → Option (Int × List (Int × Bool))) (hs : t.Kids.length ≤ 1000000000)
    (hf : ∀ k ∈ t.Kids, ∀ l, slf k many (mp l) = some ((chk many k l).1, mp (chk many k l).2)) : ∀ (k i : Nat) (l : List Int), i ≤ t.Kids.length → t.Kids.length - i < k →
    tree_Tree_check_L2 t many slf k (mp l) (i : Int) = some ((chks many (t.Kids.drop i) l).1, mp (chks many (t.Kids.drop i) l).2)
  | 0, i, l, h, hk => absurd hk (Nat.not_lt_zero _)
  | k + 1, i, l, h, hk => by
    rw [tree_Tree_check_L2]
    by_cases hi : i < t.Kids.length
    · obtain ⟨x, hx⟩ := get_ex hi
      rw [if_pos (by simpa using hi), atI_nat, hx, Option.bind_some, hf x (List.mem_of_getElem? hx) l, Option.bind_some, drop_cons hx, chks]
      by_cases he : (chk many x l).1 = 0
      · have := check_loop t many slf hs hf k (i + 1) (chk many x l).2 (by omega) (by omega)
        simp only [he, bne_self_eq_false, Bool.false_eq_true, if_false, ne_eq, not_true]
        rw [wrapN (by omega), this]
      · simp [he]
    · rw [if_neg (by simpa using hi), List.drop_eq_nil_of_le (by omega), chks]

theorem tree_Tree_check_eq (many : Int) : ∀ (t : TreeTree) (n : Nat) (l : List Int), szT t ≤ 1000000000 → szT t < n → tree_Tree_check n t many (mp l) = some ((chk many t l).1, mp (chk many t l).2) := by
  intro t
  induction t using tree_ind with
  | h K N ks ih =>
    intro n l hb hn
    obtain ⟨m, rfl, hlen, hk⟩ := szT_kids hn
    have hl : ks.length ≤ 1000000000 := by have := szL_len ks; simp only [szT] at hb; omega
    have hkb : ∀ k ∈ ks, szT k ≤ 1000000000 := fun k hk => by have := szL_mem hk; simp only [szT] at hb; omega
    have hloop := check_loop (.mk K N ks) many (tree_Tree_check m) hl (fun k hk' l => ih k hk' m l (hkb k hk') (hk k hk')) m 0 l (by omega) (by simpa [TreeTree_Kids_mk] using hlen)
    rw [tree_Tree_check, chk]
    simp only [TreeTree_Kind_mk, TreeTree_N_mk, TreeTree_Kids_mk, mp_get, c37_eq m ks _ hl hlen, Option.bind_some, tree_Tree_check_J1] at hloop ⊢
    rw [show ((0 : Nat) : Int) = 0 from rfl, List.drop_zero] at hloop
    rw [hloop]
    by_cases h0 : K < 0
    · simp [h0]
    by_cases h2 : K > 2
    · simp [h0, h2]
    by_cases hK : K = 0
    · subst hK
      by_cases hz : 0 < ks.length
      · simp [hz]
      by_cases hN : N < 0
      · simp [hz, hN]
      by_cases hM : N ≥ many
      · simp [hz, hN, hM]
      by_cases hin : N ∈ l
      · simp [hz, hN, hM, hin]
      · simp [hz, hN, hM, hin, mp_put l N hin]
    by_cases hN : N = 0
    · by_cases hz : ks.length < 2
      · have : (ks.length : Int) < 2 := by omega
        simp [h0, h2, hK, hN, hz, this]
      · have : ¬ (ks.length : Int) < 2 := by omega
        generalize ks.any (fun x => x.Kind == K) = b
        cases b <;> simp [h0, h2, hK, hN, hz, this]
    · simp [h0, h2, hK, hN]

mutual
def ofT : TreeTree → Ref14Tree
  | .mk K N ks => .mk K N (ofL ks)
def ofL : List TreeTree → List Ref14Tree
  | [] => []
  | k :: ks => ofT k :: ofL ks
end
theorem ofL_map : ∀ ks : List TreeTree, ofL ks = ks.map ofT
  | [] => rfl
  | k :: ks => by rw [ofL, ofL_map ks]; rfl
theorem ofT_Kind (t : TreeTree) : (ofT t).Kind = t.Kind := by cases t; rfl
theorem ofT_N (t : TreeTree) : (ofT t).N = t.N := by cases t; rfl
theorem ofT_Kids (t : TreeTree) : (ofT t).Kids = t.Kids.map ofT := by cases t; exact ofL_map _
theorem ofT_mk (K N : Int) (ks : List TreeTree) : ofT (.mk K N ks) = .mk K N (ks.map ofT) := by rw [ofT, ofL_map]

theorem atI_map {α β : Type} (f : α → β) (l : List α) (i : Nat) {x : α} (h : l[i]? = some x) : atI (l.map f) (i : Int) = some (f x) := by rw [atI_nat]; simp [h]

theorem of_loop (t : TreeTree) (slf : TreeTree → Option Ref14Tree) (hs : t.Kids.length ≤ 1000000000) (hf : ∀ k ∈ t.Kids, slf k = some (ofT k)) : ∀ (k i : Nat) (acc : List Ref14Tree), acc.length = i → i ≤ t.Kids.length → t.Kids.length - i < k →
    law14_Of_L1 t slf k (i : Int) acc = some (.mk t.Kind t.N (acc ++ (t.Kids.drop i).map ofT))
  | 0, i, acc, ha, h, hk => absurd hk (Nat.not_lt_zero _)
  | k + 1, i, acc, ha, h, hk => by
    rw [law14_Of_L1]
    by_cases hi : i < t.Kids.length
    · obtain ⟨x, hx⟩ := get_ex hi
      rw [if_pos (by simpa using hi), atI_nat, hx, Option.bind_some, hf x (List.mem_of_getElem? hx), Option.bind_some, if_pos (by simp; omega), Option.bind_some, wrapN (by omega), drop_cons hx]
      rw [of_loop t slf hs hf k (i + 1) (acc ++ [ofT x]) (by simp [ha]) (by omega) (by omega)]
      simp
    · rw [if_neg (by simpa using hi), List.drop_eq_nil_of_le (by omega)]; simp

theorem law14_Of_eq : ∀ (t : TreeTree) (n : Nat), szT t ≤ 1000000000 → szT t < n → law14_Of n t = some (ofT t) := by
  intro t
  induction t using tree_ind with
  | h K N ks ih =>
    intro n hb hn
    obtain ⟨m, rfl, hlen, hk⟩ := szT_kids hn
    have hl : ks.length ≤ 1000000000 := by have := szL_len ks; simp only [szT] at hb; omega
    have hkb : ∀ k ∈ ks, szT k ≤ 1000000000 := fun k hk => by have := szL_mem hk; simp only [szT] at hb; omega
    rw [law14_Of]
    have := of_loop (.mk K N ks) (law14_Of m) (by simpa [TreeTree_Kids_mk] using hl) (fun k hk' => ih k hk' m (hkb k hk') (hk k hk')) m 0 [] rfl (by omega) (by simpa [TreeTree_Kids_mk] using hlen)
    rw [show (0 : Int) = ((0 : Nat) : Int) from rfl, this, ofT_mk]
    simp [TreeTree_Kids_mk, TreeTree_Kind_mk, TreeTree_N_mk]

/-! ### the reference's check -/
theorem rleaf_loop (r : Ref14Tree) (l : List Int) (hs : l.length < 1000000000) : ∀ (k i : Nat), i ≤ l.length → l.length - i < k →
    ref14_check_v2_L1 r l k (i : Int) = some (if r.N ∈ l.drop i then (9, l) else (0, l ++ [r.N]))
  | 0, i, h, hk => absurd hk (Nat.not_lt_zero _)
  | k + 1, i, h, hk => by
    rw [ref14_check_v2_L1]
    by_cases hi : i < l.length
    · obtain ⟨x, hx⟩ := get_ex hi
      rw [if_pos (by simpa using hi), atI_nat, hx, Option.bind_some, drop_cons hx]
      by_cases he : x = r.N
      · simp [he]
      · have : ¬ r.N = x := fun e => he e.symm
        rw [wrapN (by omega), rleaf_loop r l hs k (i + 1) (by omega) (by omega)]
        simp [he, this]
    · rw [if_neg (by simpa using hi), List.drop_eq_nil_of_le (by omega), if_pos (by simp; omega)]
      simp
theorem rleaf_loop1 (r : Ref14Tree) (l : List Int) (hs : l.length < 1000000000) : ∀ (k i : Nat), i ≤ l.length → l.length - i < k →
    ref14_check_o1_v1_L1 r l k (i : Int) = some (if r.N ∈ l.drop i then (9, l) else (0, l ++ [r.N]))
  | 0, i, h, hk => absurd hk (Nat.not_lt_zero _)
  | k + 1, i, h, hk => by
    rw [ref14_check_o1_v1_L1]
    by_cases hi : i < l.length
    · obtain ⟨x, hx⟩ := get_ex hi
      rw [if_pos (by simpa using hi), atI_nat, hx, Option.bind_some, drop_cons hx]
      by_cases he : x = r.N
      · simp [he]
      · have : ¬ r.N = x := fun e => he e.symm
        rw [wrapN (by omega), rleaf_loop1 r l hs k (i + 1) (by omega) (by omega)]
        simp [he, this]
    · rw [if_neg (by simpa using hi), List.drop_eq_nil_of_le (by omega), if_pos (by simp; omega)]
      simp

/-- How many leaves a check adds. -/
theorem chk_len (many : Int) : ∀ (t : TreeTree) (l : List Int), (chk many t l).2.length ≤ l.length + szT t := by
  intro t
  induction t using tree_ind with
  | h K N ks ih =>
    have hs : ∀ (js : List TreeTree), (∀ k ∈ js, ∀ l, (chk many k l).2.length ≤ l.length + szT k) → ∀ l, (chks many js l).2.length ≤ l.length + szL js := by
      intro js
      induction js with
      | nil => intro _ l; simp [chks, szL]
      | cons k js ihj =>
        intro h l
        have h1 := h k (by simp) l
        rw [chks, szL]
        split
        · omega
        · have h2 := ihj (fun k hk => h k (by simp [hk])) (chk many k l).2
          omega
    intro l
    have := hs ks ih l
    rw [chk, szT]
    repeat' split
    all_goals try simp only [List.length_append, List.length_cons, List.length_nil]
    all_goals omega

theorem v2_loop (t : TreeTree) (many : Int) (slf : Ref14Tree → Int → List Int → Option (Int × List Int)) (hs : t.Kids.length ≤ 1000000000) (M : Nat)
    (hf : ∀ k ∈ t.Kids, ∀ l, l.length + szT k ≤ M → slf (ofT k) many l = some (chk many k l)) : ∀ (k i : Nat) (l : List Int), i ≤ t.Kids.length → t.Kids.length - i < k → l.length + szL (t.Kids.drop i) ≤ M →
    ref14_check_v2_L3 (ofT t) many slf k (i : Int) l = some (chks many (t.Kids.drop i) l)
  | 0, i, l, h, hk, hM => absurd hk (Nat.not_lt_zero _)
  | k + 1, i, l, h, hk, hM => by
    rw [ref14_check_v2_L3, ofT_Kids]
    by_cases hi : i < t.Kids.length
    · obtain ⟨x, hx⟩ := get_ex hi
      rw [drop_cons hx, szL] at hM
      rw [if_pos (by simpa using hi), atI_map ofT _ _ hx, Option.bind_some, hf x (List.mem_of_getElem? hx) l (by omega), Option.bind_some, drop_cons hx, chks]
      have hl := chk_len many x l
      by_cases he : (chk many x l).1 = 0
      · have := v2_loop t many slf hs M hf k (i + 1) (chk many x l).2 (by omega) (by omega) (by omega)
        simp only [he, bne_self_eq_false, Bool.false_eq_true, if_false, ne_eq, not_true]
        rw [wrapN (by omega), this]
      · simp [he]
    · rw [if_neg (by simpa using hi), List.drop_eq_nil_of_le (by omega), chks]

theorem v2_kinds (n : Nat) (t : TreeTree) (many : Int) (l : List Int) (slf : Ref14Tree → Int → List Int → Option (Int × List Int)) (hs : t.Kids.length ≤ 1000000000) : ∀ (k i : Nat), i ≤ t.Kids.length → t.Kids.length - i < k →
    ref14_check_v2_L4 n (ofT t) many l slf k (i : Int) = if ((t.Kids.drop i).any fun x => x.Kind == t.Kind) = true then some (14, l) else ref14_check_v2_J2 n (ofT t) many l slf
  | 0, i, h, hk => absurd hk (Nat.not_lt_zero _)
  | k + 1, i, h, hk => by
    rw [ref14_check_v2_L4, ofT_Kids, ofT_Kind]
    by_cases hi : i < t.Kids.length
    · obtain ⟨x, hx⟩ := get_ex hi
      rw [if_pos (by simpa using hi), atI_map ofT _ _ hx, Option.bind_some, drop_cons hx, List.any_cons, ofT_Kind]
      cases hc : (x.Kind == t.Kind) with
      | true => simp
      | false =>
        rw [wrapN (by omega), v2_kinds n t many l slf hs k (i + 1) (by omega) (by omega)]
        simp
    · rw [if_neg (by simpa using hi), List.drop_eq_nil_of_le (by omega)]; simp

theorem v2_eq (many : Int) : ∀ (t : TreeTree) (n : Nat) (l : List Int), l.length + szT t ≤ 1000000000 → l.length + szT t < n → ref14_check_v2 n (ofT t) many l = some (chk many t l) := by
  intro t
  induction t using tree_ind with
  | h K N ks ih =>
    intro n l hb hn
    obtain ⟨m, rfl, hlen, hk⟩ := szT_kids (show szT (.mk K N ks) < n by omega)
    have hsz : szT (.mk K N ks) = 1 + szL ks := by rw [szT]
    have hl : ks.length ≤ 1000000000 := by have := szL_len ks; omega
    have hloop := v2_loop (.mk K N ks) many (ref14_check_v2 m) (by simpa [TreeTree_Kids_mk] using hl) (l.length + szL ks) (fun k hk' l' hl' => ih k hk' m l' (by omega) (by omega)) m 0 l (by omega) (by simpa [TreeTree_Kids_mk] using hlen) (by simp [TreeTree_Kids_mk])
    have hkinds := v2_kinds m (.mk K N ks) many l (ref14_check_v2 m) (by simpa [TreeTree_Kids_mk] using hl) m 0 (by omega) (by simpa [TreeTree_Kids_mk] using hlen)
    have hleaf := rleaf_loop (ofT (.mk K N ks)) l (by omega) m 0 (by omega) (by omega)
    simp only [TreeTree_Kind_mk, TreeTree_Kids_mk, ofT_N, TreeTree_N_mk, List.drop_zero, show ((0 : Nat) : Int) = 0 from rfl, ref14_check_v2_J2] at hloop hkinds hleaf
    rw [ref14_check_v2, chk]
    simp only [ofT_Kind, ofT_N, ofT_Kids, TreeTree_Kind_mk, TreeTree_N_mk, TreeTree_Kids_mk, List.length_map]
    rw [hkinds, hloop, hleaf]
    by_cases h0 : K < 0
    · simp [h0]
    by_cases h2 : K > 2
    · simp [h0, h2]
    by_cases hK : K = 0
    · subst hK
      by_cases hz : 0 < ks.length
      · simp [hz]
      by_cases hN : N < 0
      · simp [hz, hN]
      by_cases hM : N ≥ many
      · simp [hz, hN, hM]
      by_cases hin : N ∈ l <;> simp [hz, hN, hM, hin]
    by_cases hN : N = 0
    · by_cases hz : ks.length < 2
      · have : (ks.length : Int) < 2 := by omega
        simp [h0, h2, hK, hN, hz, this]
      · have : ¬ (ks.length : Int) < 2 := by omega
        generalize ks.any (fun x => x.Kind == K) = b
        cases b <;> simp [h0, h2, hK, hN, hz, this]
    · simp [h0, h2, hK, hN]

theorem o1_loop (n : Nat) (t : TreeTree) (many : Int) (hs : t.Kids.length ≤ 1000000000) (M : Nat)
    (hf : ∀ k ∈ t.Kids, ∀ l, l.length + szT k ≤ M → ref14_check_v2 n (ofT k) many l = some (chk many k l)) : ∀ (k i : Nat) (l : List Int), i ≤ t.Kids.length → t.Kids.length - i < k → l.length + szL (t.Kids.drop i) ≤ M →
    ref14_check_o1_v1_L3 n (ofT t) many k (i : Int) l = some (chks many (t.Kids.drop i) l)
  | 0, i, l, h, hk, hM => absurd hk (Nat.not_lt_zero _)
  | k + 1, i, l, h, hk, hM => by
    rw [ref14_check_o1_v1_L3, ofT_Kids]
    by_cases hi : i < t.Kids.length
    · obtain ⟨x, hx⟩ := get_ex hi
      rw [drop_cons hx, szL] at hM
      rw [if_pos (by simpa using hi), atI_map ofT _ _ hx, Option.bind_some, hf x (List.mem_of_getElem? hx) l (by omega), Option.bind_some, drop_cons hx, chks]
      have hl := chk_len many x l
      by_cases he : (chk many x l).1 = 0
      · have := o1_loop n t many hs M hf k (i + 1) (chk many x l).2 (by omega) (by omega) (by omega)
        simp only [he, bne_self_eq_false, Bool.false_eq_true, if_false, ne_eq, not_true]
        rw [wrapN (by omega), this]
      · simp [he]
    · rw [if_neg (by simpa using hi), List.drop_eq_nil_of_le (by omega), chks]

theorem o1_kinds (n : Nat) (t : TreeTree) (many : Int) (l : List Int) (hs : t.Kids.length ≤ 1000000000) : ∀ (k i : Nat), i ≤ t.Kids.length → t.Kids.length - i < k →
    ref14_check_o1_v1_L4 n (ofT t) many l k (i : Int) = if ((t.Kids.drop i).any fun x => x.Kind == t.Kind) = true then some (14, l) else ref14_check_o1_v1_J2 n (ofT t) many l
  | 0, i, h, hk => absurd hk (Nat.not_lt_zero _)
  | k + 1, i, h, hk => by
    rw [ref14_check_o1_v1_L4, ofT_Kids, ofT_Kind]
    by_cases hi : i < t.Kids.length
    · obtain ⟨x, hx⟩ := get_ex hi
      rw [if_pos (by simpa using hi), atI_map ofT _ _ hx, Option.bind_some, drop_cons hx, List.any_cons, ofT_Kind]
      cases hc : (x.Kind == t.Kind) with
      | true => simp
      | false =>
        rw [wrapN (by omega), o1_kinds n t many l hs k (i + 1) (by omega) (by omega)]
        simp
    · rw [if_neg (by simpa using hi), List.drop_eq_nil_of_le (by omega)]; simp

theorem o1_eq (many : Int) (t : TreeTree) (n : Nat) (l : List Int) (hb : l.length + szT t ≤ 1000000000) (hn : l.length + szT t < n) : ref14_check_o1_v1 n (ofT t) many l = some (chk many t l) := by
  obtain ⟨K, N, ks⟩ := t
  have hsz : szT (.mk K N ks) = 1 + szL ks := by rw [szT]
  have hlen : ks.length < n := by have := szL_len ks; omega
  have hl : ks.length ≤ 1000000000 := by have := szL_len ks; omega
  have hloop := o1_loop n (.mk K N ks) many (by simpa [TreeTree_Kids_mk] using hl) (l.length + szL ks) (fun k hk' l' hl' => v2_eq many k n l' (by omega) (by omega)) n 0 l (by omega) (by simpa [TreeTree_Kids_mk] using hlen) (by simp [TreeTree_Kids_mk])
  have hkinds := o1_kinds n (.mk K N ks) many l (by simpa [TreeTree_Kids_mk] using hl) n 0 (by omega) (by simpa [TreeTree_Kids_mk] using hlen)
  have hleaf := rleaf_loop1 (ofT (.mk K N ks)) l (by omega) n 0 (by omega) (by omega)
  simp only [TreeTree_Kind_mk, TreeTree_Kids_mk, ofT_N, TreeTree_N_mk, List.drop_zero, show ((0 : Nat) : Int) = 0 from rfl, ref14_check_o1_v1_J2] at hloop hkinds hleaf
  rw [ref14_check_o1_v1, chk]
  simp only [ofT_Kind, ofT_N, ofT_Kids, TreeTree_Kind_mk, TreeTree_N_mk, TreeTree_Kids_mk, List.length_map]
  rw [hkinds, hloop, hleaf]
  by_cases h0 : K < 0
  · simp [h0]
  by_cases h2 : K > 2
  · simp [h0, h2]
  by_cases hK : K = 0
  · subst hK
    by_cases hz : 0 < ks.length
    · simp [hz]
    by_cases hN : N < 0
    · simp [hz, hN]
    by_cases hM : N ≥ many
    · simp [hz, hN, hM]
    by_cases hin : N ∈ l <;> simp [hz, hN, hM, hin]
  by_cases hN : N = 0
  · by_cases hz : ks.length < 2
    · have : (ks.length : Int) < 2 := by omega
      simp [h0, h2, hK, hN, hz, this]
    · have : ¬ (ks.length : Int) < 2 := by omega
      generalize ks.any (fun x => x.Kind == K) = b
      cases b <;> simp [h0, h2, hK, hN, hz, this]
  · simp [h0, h2, hK, hN]

theorem v1_loop (n : Nat) (t : TreeTree) (many : Int) (hs : t.Kids.length ≤ 1000000000) (M : Nat)
    (hf : ∀ k ∈ t.Kids, ∀ l, l.length + szT k ≤ M → ref14_check_o1_v1 n (ofT k) many l = some (chk many k l)) : ∀ (k i : Nat) (l : List Int), i ≤ t.Kids.length → t.Kids.length - i < k → l.length + szL (t.Kids.drop i) ≤ M →
    ref14_check_v1_L3 n (ofT t) many k (i : Int) l = some (chks many (t.Kids.drop i) l)
  | 0, i, l, h, hk, hM => absurd hk (Nat.not_lt_zero _)
  | k + 1, i, l, h, hk, hM => by
    rw [ref14_check_v1_L3, ofT_Kids]
    by_cases hi : i < t.Kids.length
    · obtain ⟨x, hx⟩ := get_ex hi
      rw [drop_cons hx, szL] at hM
      rw [if_pos (by simpa using hi), atI_map ofT _ _ hx, Option.bind_some, hf x (List.mem_of_getElem? hx) l (by omega), Option.bind_some, drop_cons hx, chks]
      have hl := chk_len many x l
      by_cases he : (chk many x l).1 = 0
      · have := v1_loop n t many hs M hf k (i + 1) (chk many x l).2 (by omega) (by omega) (by omega)
        simp only [he, bne_self_eq_false, Bool.false_eq_true, if_false, ne_eq, not_true]
        rw [wrapN (by omega), this]
      · simp [he]
    · rw [if_neg (by simpa using hi), List.drop_eq_nil_of_le (by omega), chks]

theorem v1_kinds (n : Nat) (t : TreeTree) (many : Int) (hs : t.Kids.length ≤ 1000000000) : ∀ (k i : Nat), i ≤ t.Kids.length → t.Kids.length - i < k →
    ref14_check_v1_L4 n (ofT t) many k (i : Int) = if ((t.Kids.drop i).any fun x => x.Kind == t.Kind) = true then some (14, []) else ref14_check_v1_J2 n (ofT t) many
  | 0, i, h, hk => absurd hk (Nat.not_lt_zero _)
  | k + 1, i, h, hk => by
    rw [ref14_check_v1_L4, ofT_Kids, ofT_Kind]
    by_cases hi : i < t.Kids.length
    · obtain ⟨x, hx⟩ := get_ex hi
      rw [if_pos (by simpa using hi), atI_map ofT _ _ hx, Option.bind_some, drop_cons hx, List.any_cons, ofT_Kind]
      cases hc : (x.Kind == t.Kind) with
      | true => simp
      | false =>
        rw [wrapN (by omega), v1_kinds n t many hs k (i + 1) (by omega) (by omega)]
        simp
    · rw [if_neg (by simpa using hi), List.drop_eq_nil_of_le (by omega)]; simp

theorem v1_eq (many : Int) (t : TreeTree) (n : Nat) (hb : szT t ≤ 1000000000) (hn : szT t < n) : ref14_check_v1 n (ofT t) many = some (chk many t []) := by
  obtain ⟨K, N, ks⟩ := t
  obtain ⟨m, rfl, hlen, hk⟩ := szT_kids hn
  have hsz : szT (.mk K N ks) = 1 + szL ks := by rw [szT]
  have hl : ks.length ≤ 1000000000 := by have := szL_len ks; omega
  have hloop := v1_loop m (.mk K N ks) many (by simpa [TreeTree_Kids_mk] using hl) (szL ks) (fun k hk' l' hl' => o1_eq many k m l' (by omega) (by omega)) m 0 [] (by omega) (by simpa [TreeTree_Kids_mk] using hlen) (by simp [TreeTree_Kids_mk])
  have hkinds := v1_kinds m (.mk K N ks) many (by simpa [TreeTree_Kids_mk] using hl) m 0 (by omega) (by simpa [TreeTree_Kids_mk] using hlen)
  have hleaf : ref14_check_v1_L1 (ofT (.mk K N ks)) m = some (0, [N]) := by
    obtain ⟨j, rfl⟩ : ∃ j, m = j + 1 := ⟨m - 1, by omega⟩
    rw [ref14_check_v1_L1, ofT_N, TreeTree_N_mk]; simp
  simp only [TreeTree_Kind_mk, TreeTree_Kids_mk, List.drop_zero, show ((0 : Nat) : Int) = 0 from rfl, ref14_check_v1_J2] at hloop hkinds
  rw [ref14_check_v1, chk]
  simp only [ofT_Kind, ofT_N, ofT_Kids, TreeTree_Kind_mk, TreeTree_N_mk, TreeTree_Kids_mk, List.length_map]
  rw [hkinds, hloop, hleaf]
  by_cases h0 : K < 0
  · simp [h0]
  by_cases h2 : K > 2
  · simp [h0, h2]
  by_cases hK : K = 0
  · subst hK
    by_cases hz : 0 < ks.length
    · simp [hz]
    by_cases hN : N < 0
    · simp [hz, hN]
    by_cases hM : N ≥ many <;> simp [hz, hN, hM]
  by_cases hN : N = 0
  · by_cases hz : ks.length < 2
    · have : (ks.length : Int) < 2 := by omega
      simp [h0, h2, hK, hN, hz, this]
    · have : ¬ (ks.length : Int) < 2 := by omega
      generalize ks.any (fun x => x.Kind == K) = b
      cases b <;> simp [h0, h2, hK, hN, hz, this]
  · simp [h0, h2, hK, hN]

/-- A negative number of contacts is none. -/
theorem chk_neg {many : Int} (h : many < 0) : ∀ (t : TreeTree) (l : List Int), chk many t l = chk 0 t l := by
  intro t
  induction t using tree_ind with
  | h K N ks ih =>
    have hs : ∀ (js : List TreeTree), (∀ k ∈ js, ∀ l, chk many k l = chk 0 k l) → ∀ l, chks many js l = chks 0 js l := by
      intro js
      induction js with
      | nil => intro _ l; rfl
      | cons k js ihj =>
        intro h l
        rw [chks, chks, h k (by simp) l, ihj (fun k hk => h k (by simp [hk]))]
    intro l
    rw [chk, chk, hs ks ih l]
    have : (N < 0 ∨ N ≥ many) ↔ (N < 0 ∨ N ≥ 0) := by omega
    simp only [this]

/-- A tree's check. -/
def checkS (t : TreeTree) (many : Int) : Int :=
  if (chk many t []).1 ≠ 0 then (chk many t []).1 else if ((chk many t []).2.length : Int) ≠ imax 0 many then 4 else 0

theorem tree_Check_eq (t : TreeTree) (many : Int) (n : Nat) (hb : szT t ≤ 1000000000) (hn : szT t < n) : tree_Check n t many = some (checkS t many) := by
  rw [tree_Check]
  have := tree_Tree_check_eq many t n [] hb hn
  rw [show mp [] = [] from rfl] at this
  rw [this, Option.bind_some, checkS]
  simp only [mp_len]
  by_cases he : (chk many t []).1 = 0
  · by_cases hl : ((chk many t []).2.length : Int) = imax 0 many <;> simp [he, hl]
  · simp [he]

theorem ref14_Check_eq (t : TreeTree) (many : Int) (n : Nat) (hb : szT t ≤ 1000000000) (hn : szT t < n) : ref14_Check n (ofT t) many = some (checkS t many) := by
  have core : ∀ p : Int, 0 ≤ p → ref14_Check_J1 n (ofT t) p = some (checkS t p) := fun p hp => by
    rw [ref14_Check_J1, v1_eq p t n hb hn, Option.bind_some, checkS]
    have : imax 0 p = p := by unfold imax; split <;> omega
    rw [this]
    by_cases he : (chk p t []).1 = 0
    · by_cases hl : ((chk p t []).2.length : Int) = p <;> simp [he, hl]
    · simp [he]
  rw [ref14_Check]
  by_cases h : many < 0
  · have : checkS t many = checkS t 0 := by
      rw [checkS, checkS, chk_neg h]
      have : imax 0 many = imax 0 0 := by unfold imax; rw [if_neg (by omega), if_neg (by omega)]
      rw [this]
    simp only [h, decide_true, if_true]
    rw [core 0 (by omega), this]
  · simp only [h, decide_false, Bool.false_eq_true, if_false]
    exact core many (by omega)

mutual
/-- A tree of good make over so many contacts. -/
def Ok (len : Int) : TreeTree → Prop
  | .mk K N ks => (K = 0 ∧ ks = [] ∧ 0 ≤ N ∧ N < len) ∨ ((K = 1 ∨ K = 2) ∧ N = 0 ∧ 2 ≤ ks.length ∧ (∀ k ∈ ks, k.Kind ≠ K) ∧ OkL len ks)
def OkL (len : Int) : List TreeTree → Prop
  | [] => True
  | k :: ks => Ok len k ∧ OkL len ks
end
theorem OkL_iff {len : Int} : ∀ {ks : List TreeTree}, OkL len ks ↔ ∀ k ∈ ks, Ok len k
  | [] => by simp [OkL]
  | k :: ks => by rw [OkL, OkL_iff (ks := ks)]; simp

mutual
/-- The leaves, in order. -/
def lv : TreeTree → List Int
  | .mk K N ks => if K = 0 then [N] else if K = 1 ∨ K = 2 then lvs ks else []
def lvs : List TreeTree → List Int
  | [] => []
  | k :: ks => lv k ++ lvs ks
end

theorem chk_iff (many : Int) : ∀ (t : TreeTree) (l : List Int), ((chk many t l).1 = 0 ↔ Ok many t ∧ (lv t).Nodup ∧ ∀ x ∈ lv t, x ∉ l) ∧ ((chk many t l).1 = 0 → (chk many t l).2 = l ++ lv t) := by
  intro t
  induction t using tree_ind with
  | h K N ks ih =>
    have hs : ∀ (js : List TreeTree), (∀ k ∈ js, ∀ l, ((chk many k l).1 = 0 ↔ Ok many k ∧ (lv k).Nodup ∧ ∀ x ∈ lv k, x ∉ l) ∧ ((chk many k l).1 = 0 → (chk many k l).2 = l ++ lv k)) →
        ∀ l, ((chks many js l).1 = 0 ↔ OkL many js ∧ (lvs js).Nodup ∧ ∀ x ∈ lvs js, x ∉ l) ∧ ((chks many js l).1 = 0 → (chks many js l).2 = l ++ lvs js) := by
      intro js
      induction js with
      | nil => intro _ l; simp [chks, OkL, lvs]
      | cons k js ihj =>
        intro h l
        obtain ⟨h1, h2⟩ := h k (by simp) l
        rw [chks]
        by_cases he : (chk many k l).1 = 0
        · have e2 := h2 he
          obtain ⟨g1, g2, g3⟩ := h1.1 he
          obtain ⟨i1, i2⟩ := ihj (fun k hk => h k (by simp [hk])) (l ++ lv k)
          rw [if_neg (by simpa using he), e2]
          refine ⟨?_, fun hz => by rw [i2 hz, lvs, List.append_assoc]⟩
          rw [i1, OkL, lvs, List.nodup_append]
          constructor
          · rintro ⟨a1, a2, a3⟩
            refine ⟨⟨g1, a1⟩, ⟨g2, a2, fun a ha b hb e => ?_⟩, fun x hx => ?_⟩
            · subst e; exact a3 a hb (by simp [ha])
            · rcases List.mem_append.1 hx with hx | hx
              · exact g3 x hx
              · intro hl; exact a3 x hx (by simp [hl])
          · rintro ⟨⟨_, a1⟩, ⟨_, a2, a3⟩, a4⟩
            refine ⟨a1, a2, fun x hx hm => ?_⟩
            rcases List.mem_append.1 hm with hm | hm
            · exact a4 x (by simp [hx]) hm
            · exact a3 x hm x hx rfl
        · rw [if_pos he]
          refine ⟨⟨fun hz => absurd hz he, fun ⟨a1, a2, a3⟩ => ?_⟩, fun hz => absurd hz he⟩
          exfalso
          rw [OkL] at a1
          rw [lvs, List.nodup_append] at a2
          rw [lvs] at a3
          exact he (h1.2 ⟨a1.1, a2.1, fun x hx => a3 x (by simp [hx])⟩)
    intro l
    obtain ⟨s1, s2⟩ := hs ks ih l
    rw [chk, Ok, lv]
    by_cases h0 : K < 0 ∨ K > 2
    · rw [if_pos h0]
      refine ⟨⟨fun hz => by simp at hz, fun ⟨h, _⟩ => ?_⟩, fun hz => by simp at hz⟩
      rcases h with ⟨h, _⟩ | ⟨h, _⟩ <;> omega
    rw [if_neg h0]
    by_cases hK : K = 0
    · subst hK
      simp only [if_true]
      by_cases hz : 0 < ks.length
      · rw [if_pos hz]
        refine ⟨⟨fun hz => by simp at hz, fun ⟨h, _⟩ => ?_⟩, fun hz => by simp at hz⟩
        rcases h with ⟨_, h, _⟩ | ⟨h, _⟩
        · subst h; simp at hz
        · omega
      rw [if_neg hz]
      have hnil : ks = [] := List.length_eq_zero_iff.1 (by omega)
      by_cases hN : N < 0 ∨ N ≥ many
      · rw [if_pos hN]
        refine ⟨⟨fun hz => by simp at hz, fun ⟨h, _⟩ => ?_⟩, fun hz => by simp at hz⟩
        rcases h with ⟨_, _, h⟩ | ⟨h, _⟩ <;> omega
      rw [if_neg hN]
      by_cases hin : N ∈ l
      · rw [if_pos hin]
        refine ⟨⟨fun hz => by simp at hz, fun ⟨_, _, h⟩ => ?_⟩, fun hz => by simp at hz⟩
        exact absurd hin (h N (by simp))
      · rw [if_neg hin]
        refine ⟨⟨fun _ => ⟨.inl ⟨trivial, hnil, by omega, by omega⟩, by simp, by simpa using hin⟩, fun _ => rfl⟩, fun _ => rfl⟩
    · have h12 : K = 1 ∨ K = 2 := by omega
      rw [if_neg hK, if_neg hK, if_pos h12]
      by_cases hN : N = 0
      · rw [if_neg (by simpa using hN)]
        by_cases hl : ks.length < 2
        · rw [if_pos hl]
          refine ⟨⟨fun hz => by simp at hz, fun ⟨h, _⟩ => ?_⟩, fun hz => by simp at hz⟩
          rcases h with ⟨h, _⟩ | ⟨_, _, h, _⟩ <;> omega
        rw [if_neg hl]
        by_cases ha : ks.any (fun k => k.Kind == K) = true
        · rw [if_pos ha]
          refine ⟨⟨fun hz => by simp at hz, fun ⟨h, _⟩ => ?_⟩, fun hz => by simp at hz⟩
          obtain ⟨k, hk, he⟩ := List.any_eq_true.1 ha
          rcases h with ⟨h, _⟩ | ⟨_, _, _, h, _⟩
          · exact absurd h hK
          · exact absurd (by simpa using he) (h k hk)
        · rw [if_neg ha, s1]
          refine ⟨⟨fun ⟨a1, a2, a3⟩ => ⟨.inr ⟨h12, hN, by omega, fun k hk e => ha (List.any_eq_true.2 ⟨k, hk, by simpa using e⟩), a1⟩, a2, a3⟩, fun ⟨h, a2, a3⟩ => ⟨?_, a2, a3⟩⟩, fun hz => s2 (s1.2 hz)⟩
          rcases h with ⟨h, _⟩ | ⟨_, _, _, _, h⟩
          · exact absurd h hK
          · exact h
      · rw [if_pos (by simpa using hN)]
        refine ⟨⟨fun hz => by simp at hz, fun ⟨h, _⟩ => ?_⟩, fun hz => by simp at hz⟩
        rcases h with ⟨h, _⟩ | ⟨_, h, _⟩
        · exact absurd h hK
        · exact absurd h hN

/-- A tree that passes its check. -/
theorem checkS_iff (t : TreeTree) (len : Nat) : checkS t (len : Int) = 0 ↔ Ok len t ∧ (lv t).Nodup ∧ (lv t).length = len := by
  obtain ⟨h1, h2⟩ := chk_iff (len : Int) t []
  have hm : imax 0 (len : Int) = len := by unfold imax; split <;> omega
  rw [checkS, hm]
  by_cases he : (chk len t []).1 = 0
  · have e2 := h2 he
    obtain ⟨g1, g2, g3⟩ := h1.1 he
    rw [if_neg (by simpa using he), e2]
    simp only [List.nil_append]
    by_cases hl : ((lv t).length : Int) = len
    · rw [if_neg (by simpa using hl)]
      simp only [true_iff]
      exact ⟨g1, g2, by omega⟩
    · rw [if_pos hl]
      refine ⟨fun hz => by simp at hz, fun ⟨_, _, h⟩ => absurd (by omega) hl⟩
  · rw [if_pos he]
    refine ⟨fun hz => absurd hz he, fun ⟨a1, a2, _⟩ => absurd (h1.2 ⟨a1, a2, by simp⟩) he⟩

/-! ### the weight -/
theorem weight_loop (t : TreeTree) (deep : Int) (slf : TreeTree → Int → Option Int) (hs : t.Kids.length ≤ 1000000000) (hf : ∀ k ∈ t.Kids, ∃ r, slf k (IntKind.i64.wrap (deep + 1)) = some r) : ∀ (k i : Nat) (p : Int), i ≤ t.Kids.length → t.Kids.length - i < k →
    ∃ r, law14_weight_L1 t deep slf k (i : Int) p = some r
  | 0, i, p, h, hk => absurd hk (Nat.not_lt_zero _)
  | k + 1, i, p, h, hk => by
    rw [law14_weight_L1]
    by_cases hi : i < t.Kids.length
    · obtain ⟨x, hx⟩ := get_ex hi
      obtain ⟨r, hr⟩ := hf x (List.mem_of_getElem? hx)
      rw [if_pos (by simpa using hi), atI_nat, hx, Option.bind_some, hr, Option.bind_some]
      split
      · exact ⟨_, rfl⟩
      · rw [wrapN (by omega)]
        exact weight_loop t deep slf hs hf k (i + 1) _ (by omega) (by omega)
    · rw [if_neg (by simpa using hi)]; exact ⟨_, rfl⟩
theorem law14_weight_some : ∀ (t : TreeTree) (n : Nat) (deep : Int), szT t ≤ 1000000000 → szT t < n → ∃ r, law14_weight n t deep = some r := by
  intro t
  induction t using tree_ind with
  | h K N ks ih =>
    intro n deep hb hn
    obtain ⟨m, rfl, hlen, hk⟩ := szT_kids hn
    have hl : ks.length ≤ 1000000000 := by have := szL_len ks; simp only [szT] at hb; omega
    have hkb : ∀ k ∈ ks, szT k ≤ 1000000000 := fun k hk => by have := szL_mem hk; simp only [szT] at hb; omega
    rw [law14_weight]
    split
    · exact ⟨_, rfl⟩
    · exact weight_loop (.mk K N ks) deep (law14_weight m) (by simpa [TreeTree_Kids_mk] using hl) (fun k hk' => ih k hk' m _ (hkb k hk') (hk k hk')) m 0 1 (by omega) (by simpa [TreeTree_Kids_mk] using hlen)
theorem law14_TooLarge_some (t : TreeTree) (n : Nat) (hb : szT t ≤ 1000000000) (hn : szT t < n) : ∃ r, law14_TooLarge n t = some r := by
  obtain ⟨r, hr⟩ := law14_weight_some t n 0 hb hn
  rw [law14_TooLarge, hr, Option.bind_some]
  split <;> exact ⟨_, rfl⟩
end Go.G

namespace Go.G
open Go.Av
set_option maxRecDepth 100000 in
theorem alive15 : law15_alive 2000000 = some true := by decide +kernel

/-! ### numerals -/
theorem J2_mono {k : Int} {acc r : Str} {f g : Int → Str → Option Str} (hfg : ∀ k acc, f k acc = some r → g k acc = some r) (h : ref01_Decimal_J2 k acc f = some r) : ref01_Decimal_J2 k acc g = some r := by
  rw [ref01_Decimal_J2, Option.bind_some] at h ⊢
  split at h
  · rename_i hc
    rw [if_pos hc]; exact hfg _ _ h
  · cases h
theorem L1_mono : ∀ (m : Nat) (k : Int) (acc r : Str), ref01_Decimal_L1 m k acc = some r → ∀ j, ref01_Decimal_L1 (m + j) k acc = some r
  | 0, k, acc, r, h, j => by rw [ref01_Decimal_L1] at h; cases h
  | m + 1, k, acc, r, h, j => by
    rw [show m + 1 + j = (m + j) + 1 by omega]
    rw [ref01_Decimal_L1] at h ⊢
    by_cases h0 : (decide (k > 0)) = true
    · rw [if_pos h0] at h ⊢
      exact J2_mono (fun k acc hh => L1_mono m k acc r hh j) h
    · rw [if_neg h0] at h ⊢
      by_cases h1 : (decide (acc = (⟨#[]⟩ : Str))) = true
      · rw [if_pos h1] at h ⊢
        exact J2_mono (fun k acc hh => L1_mono m k acc r hh j) h
      · rw [if_neg h1] at h ⊢
        exact h
set_option maxRecDepth 100000 in
theorem dec_all : ∀ k, k < 1000 → ref01_Decimal 10 ((k : Nat) : Int) = some (dec3 k) := by decide +kernel
theorem dec_eq (m : Nat) (hm : 10 ≤ m) (k : Nat) (hk : k < 1000) : ref14_Decimal m (k : Int) = some (dec3 k) := by
  have h := dec_all k hk
  obtain ⟨j, rfl⟩ : ∃ j, m = 10 + j := ⟨m - 10, by omega⟩
  rw [ref14_Decimal, if_neg (by simp)]
  rw [ref01_Decimal] at h ⊢
  rw [L1_mono 10 _ _ _ h j]; rfl
theorem itoa_eq (m k : Nat) (hk : k < 1000) : strconv_Itoa m (k : Int) = some (dec3 k) := by
  rw [strconv_Itoa, if_pos ⟨by omega, by omega⟩, Int.toNat_natCast]
theorem dec3_size (k : Nat) : (dec3 k).size ≤ 3 := by
  unfold dec3
  split
  · split
    · show 1 ≤ 3; omega
    · show 2 ≤ 3; omega
  · exact Nat.le_refl 3

/-! ### laying -/
theorem leaf_both (N : Int) (from_ to_ : Str) (l : List ApiContact) (h0 : 0 ≤ N) (h1 : N < l.length) : ∃ l' : List ApiContact, l'.length = l.length ∧
    (∀ β (f : List ApiContact → Option β), ((atI l N).bind fun x => (some (l.set N.toNat (⟨x.Kind, x.A, from_, x.To⟩ : ApiContact))).bind fun l1 => (atI l1 N).bind fun y => (some (l1.set N.toNat (⟨y.Kind, y.A, y.From, to_⟩ : ApiContact))).bind f) = f l') := by
  obtain ⟨k, rfl⟩ := Int.eq_ofNat_of_zero_le h0
  have hk : k < l.length := by omega
  obtain ⟨x, hx⟩ := get_ex hk
  refine ⟨(l.set k ⟨x.Kind, x.A, from_, x.To⟩).set k ⟨x.Kind, x.A, from_, to_⟩, by simp, fun β f => ?_⟩
  rw [atI_nat, hx, Option.bind_some, Option.bind_some, Int.toNat_natCast, atI_nat, List.getElem?_set_self (by simpa using hk), Option.bind_some, Option.bind_some]

section
variable (n : Nat) (t : TreeTree) (p : ReducePair) (se : TreeTree → ReducePair → List ApiContact → Int → Option (List ApiContact × Int)) (sr : Ref14Tree → Str → Str → Int → List ApiContact → Option (Int × List ApiContact)) (len : Nat)
  (hs : t.Kids.length ≤ 1000000)
  (hf : ∀ k ∈ t.Kids, ∀ (q : ReducePair) (l : List ApiContact) (b : Nat), l.length = len → b + szT k ≤ 900 → ∃ (l' : List ApiContact) (b' : Nat), se k q l (b : Int) = some (l', (b' : Int)) ∧ sr (ofT k) q.from_ q.to_ (b : Int) l = some ((b' : Int), l') ∧ l'.length = len ∧ b' + 1 ≤ b + szT k)
include hs hf

theorem par_both (hK : t.Kind = 2) : ∀ (m i : Nat) (l : List ApiContact) (b : Nat) (at_ : Str), l.length = len → b + szL (t.Kids.drop i) ≤ 900 → i ≤ t.Kids.length → t.Kids.length - i < m →
    ∃ (l' : List ApiContact) (b' : Nat), reduce_Expand_1_c56_v1_L1 t p se m l (b : Int) (i : Int) = some (l', (b' : Int)) ∧ ref15_lay_v1_L1 n (ofT t) p.from_ p.to_ sr m l (i : Int) (b : Int) at_ = some ((b' : Int), l') ∧ l'.length = len ∧ b' ≤ b + szL (t.Kids.drop i)
  | 0, i, l, b, at_, hl, hb, hi, hm => absurd hm (Nat.not_lt_zero _)
  | m + 1, i, l, b, at_, hl, hb, hi, hm => by
    rw [reduce_Expand_1_c56_v1_L1, ref15_lay_v1_L1, ofT_Kids, List.length_map, ofT_Kind]
    by_cases h : i < t.Kids.length
    · obtain ⟨x, hx⟩ := get_ex h
      rw [drop_cons hx, szL] at hb
      obtain ⟨l1, b1, q1, q2, q3, q4⟩ := hf x (List.mem_of_getElem? hx) p l b hl (by omega)
      rw [if_pos (by simpa using h), if_pos (by simpa using h), if_pos (by simp [hK]), atI_nat, hx, Option.bind_some, q1, Option.bind_some, atI_map ofT _ _ hx, Option.bind_some, q2, Option.bind_some]
      dsimp only
      rw [if_pos (show l1.length = l.length by omega), wrapN (by omega)]
      obtain ⟨l2, b2, r1, r2, r3, r4⟩ := par_both hK m (i + 1) l1 b1 at_ q3 (by omega) (by omega) (by omega)
      exact ⟨l2, b2, r1, r2, r3, by rw [drop_cons hx, szL]; omega⟩
    · rw [if_neg (by simpa using h), if_neg (by simpa using h)]
      exact ⟨l, b, rfl, rfl, hl, by omega⟩

theorem ser_both (hn : 10 ≤ n) (hK : t.Kind ≠ 2) : ∀ (m i : Nat) (l : List ApiContact) (b : Nat) (at_ : Str), l.length = len → b + szL (t.Kids.drop i) ≤ 900 → i + 1 ≤ t.Kids.length → t.Kids.length - i < m →
    ∃ (l' : List ApiContact) (b' : Nat), reduce_Expand_1_c56_v1_L3 n t p se (t.Kids.take (t.Kids.length - 1)) m l (b : Int) (i : Int) at_ = some (l', (b' : Int)) ∧ ref15_lay_v1_L1 n (ofT t) p.from_ p.to_ sr m l (i : Int) (b : Int) at_ = some ((b' : Int), l') ∧ l'.length = len ∧ b' ≤ b + szL (t.Kids.drop i)
  | 0, i, l, b, at_, hl, hb, hi, hm => absurd hm (Nat.not_lt_zero _)
  | m + 1, i, l, b, at_, hl, hb, hi, hm => by
    have hw : IntKind.i64.wrap ((t.Kids.length : Int) - 1) = ((t.Kids.length - 1 : Nat) : Int) := by rw [wrapI (by omega) (by omega)]; omega
    have htl : (t.Kids.take (t.Kids.length - 1)).length = t.Kids.length - 1 := by rw [List.length_take]; omega
    obtain ⟨x, hx⟩ := get_ex (l := t.Kids) (i := i) (by omega)
    have hmem := List.mem_of_getElem? hx
    rw [drop_cons hx, szL] at hb
    rw [reduce_Expand_1_c56_v1_L3, ref15_lay_v1_L1, ofT_Kids, List.length_map, ofT_Kind, htl, if_pos (show decide ((i : Int) < (t.Kids.length : Int)) = true by simp; omega), if_neg (show ¬ (t.Kind == 2) = true by simpa using hK), hw]
    by_cases h : i + 1 < t.Kids.length
    · obtain ⟨y, hy⟩ := get_ex h
      have hyp : 1 ≤ szL (t.Kids.drop (i + 1)) := by
        rw [drop_cons hy, szL]; have := szT_pos y; omega
      have hat : atI (t.Kids.take (t.Kids.length - 1)) (i : Int) = some x := by rw [atI_nat, List.getElem?_take, if_pos (by omega)]; exact hx
      have hsz := dec3_size (b + 1)
      have hsz2 : (⟨#[110]⟩ : Str).size + (dec3 (b + 1)).size ≤ 1000000000 := by
        have : (⟨#[110]⟩ : Str).size = 1 := rfl
        omega
      obtain ⟨l1, b1, q1, q2, q3, q4⟩ := hf x hmem ⟨at_, (⟨#[110]⟩ : Str) ++ dec3 (b + 1)⟩ l (b + 1) hl (by omega)
      rw [if_pos (by simp; omega), if_pos (by simp; omega), hat, Option.bind_some, wrapN (by omega), itoa_eq _ _ (by omega), Option.bind_some, if_pos hsz2, q1, Option.bind_some, dec_eq n hn _ (by omega), Option.bind_some, if_pos hsz2, ref15_lay_v1_J2, ofT_Kids, atI_map ofT _ _ hx, Option.bind_some, q2, Option.bind_some]
      dsimp only
      rw [if_pos (show l1.length = l.length by omega), wrapN (by omega)]
      obtain ⟨l2, b2, r1, r2, r3, r4⟩ := ser_both hn hK m (i + 1) l1 b1 ((⟨#[110]⟩ : Str) ++ dec3 (b + 1)) q3 (by omega) (by omega) (by omega)
      exact ⟨l2, b2, r1, r2, r3, by rw [drop_cons hx, szL]; omega⟩
    · have hi2 : i = t.Kids.length - 1 := by omega
      obtain ⟨l1, b1, q1, q2, q3, q4⟩ := hf x hmem ⟨at_, p.to_⟩ l b hl (by omega)
      obtain ⟨m, rfl⟩ : ∃ m', m = m' + 1 := ⟨m - 1, by omega⟩
      rw [if_neg (by simp; omega), if_neg (by simp; omega), reduce_Expand_1_c56_v1_J2, hw, ← hi2, atI_nat, hx, Option.bind_some, q1, Option.bind_some, ref15_lay_v1_J2, ofT_Kids, atI_map ofT _ _ hx, Option.bind_some, q2, Option.bind_some]
      dsimp only
      rw [if_pos (show l1.length = l.length by omega), wrapN (by omega), ref15_lay_v1_L1, ofT_Kids, List.length_map, if_neg (by simp; omega)]
      exact ⟨l1, b1, rfl, rfl, q3, by rw [drop_cons hx, szL]; omega⟩
end

theorem lay_both {len : Nat} : ∀ (t : TreeTree) (n : Nat) (q : ReducePair) (l : List ApiContact) (b : Nat), Ok (len : Int) t → szT t ≤ 1000 → szT t + 20 < n → l.length = len → b + szT t ≤ 900 →
    ∃ (l' : List ApiContact) (b' : Nat), reduce_Expand_1_c56_v1 n t q l (b : Int) = some (l', (b' : Int)) ∧ ref15_lay_v1 n (ofT t) q.from_ q.to_ (b : Int) l = some ((b' : Int), l') ∧ l'.length = len ∧ b' + 1 ≤ b + szT t := by
  intro t
  induction t using tree_ind with
  | h K N ks ih =>
    intro n q l b hok hz hn hl hb
    obtain ⟨m, rfl⟩ : ∃ m, n = m + 1 := ⟨n - 1, by omega⟩
    have hsz : szT (.mk K N ks) = 1 + szL ks := by rw [szT]
    have hkl := szL_len ks
    rw [reduce_Expand_1_c56_v1, ref15_lay_v1, ofT_Kind, TreeTree_Kind_mk]
    rw [Ok] at hok
    rcases hok with ⟨rfl, rfl, h0, h1⟩ | ⟨hK, rfl, h2, _, h4⟩
    · rw [if_pos (by simp), if_pos (by simp), ofT_N, TreeTree_N_mk]
      obtain ⟨l', g1, g2⟩ := leaf_both N q.from_ q.to_ l h0 (by rw [hl]; exact h1)
      exact ⟨l', b, g2 _ (fun l2 => some (l2, (b : Int))), g2 _ (fun l2 => some ((b : Int), l2)), by rw [g1, hl], by omega⟩
    · rw [OkL_iff] at h4
      have hkids : ((.mk K 0 ks : TreeTree)).Kids = ks := TreeTree_Kids_mk _ _ _
      have hf : ∀ k ∈ (TreeTree.mk K 0 ks).Kids, ∀ (q : ReducePair) (l : List ApiContact) (b : Nat), l.length = len → b + szT k ≤ 900 → ∃ (l' : List ApiContact) (b' : Nat), reduce_Expand_1_c56_v1 m k q l (b : Int) = some (l', (b' : Int)) ∧ ref15_lay_v1 m (ofT k) q.from_ q.to_ (b : Int) l = some ((b' : Int), l') ∧ l'.length = len ∧ b' + 1 ≤ b + szT k := fun k hk q l b hl hb => by
        rw [hkids] at hk
        have := szL_mem hk
        exact ih k hk m q l b (h4 k hk) (by omega) (by omega) hl hb
      rcases hK with rfl | rfl
      · obtain ⟨l', b', r1, r2, r3, r4⟩ := ser_both m (.mk 1 0 ks) q (reduce_Expand_1_c56_v1 m) (ref15_lay_v1 m) len (by rw [hkids]; omega) hf (by omega) (by rw [TreeTree_Kind_mk]; decide) m 0 l b q.from_ hl (by rw [hkids, List.drop_zero]; omega) (by rw [hkids]; omega) (by rw [hkids]; omega)
        rw [hkids, List.drop_zero] at r4
        have hw : IntKind.i64.wrap ((ks.length : Int) - 1) = ((ks.length - 1 : Nat) : Int) := by rw [wrapI (by omega) (by omega)]; omega
        rw [if_neg (show ¬ ((1 : Int) == 0) = true by decide), if_neg (show ¬ ((1 : Int) == 2) = true by decide), hkids, hw, if_pos ⟨by omega, by omega, by omega⟩, Option.bind_some, Int.toNat_natCast, if_neg (show ¬ ((1 : Int) == 0) = true by decide)]
        rw [hkids, show ((0 : Nat) : Int) = 0 from rfl] at r1
        rw [show ((0 : Nat) : Int) = 0 from rfl] at r2
        exact ⟨l', b', r1, r2, r3, by omega⟩
      · obtain ⟨l', b', r1, r2, r3, r4⟩ := par_both m (.mk 2 0 ks) q (reduce_Expand_1_c56_v1 m) (ref15_lay_v1 m) len (by rw [hkids]; omega) hf (TreeTree_Kind_mk _ _ _) m 0 l b q.from_ hl (by rw [hkids, List.drop_zero]; omega) (by omega) (by rw [hkids]; omega)
        rw [hkids, List.drop_zero] at r4
        rw [show ((0 : Nat) : Int) = 0 from rfl] at r1 r2
        rw [if_neg (show ¬ ((2 : Int) == 0) = true by decide), if_pos (show ((2 : Int) == 2) = true by decide), if_neg (show ¬ ((2 : Int) == 0) = true by decide)]
        exact ⟨l', b', r1, r2, r3, by omega⟩

/-! ### the law -/
theorem Ok_sz {len : Int} : ∀ (t : TreeTree), Ok len t → szT t + 1 ≤ 2 * (lv t).length := by
  intro t
  induction t using tree_ind with
  | h K N ks ih =>
    intro hok
    rw [Ok] at hok
    rcases hok with ⟨rfl, rfl, _, _⟩ | ⟨hK, rfl, h2, _, h4⟩
    · rw [szT, szL, lv, if_pos rfl]; simp
    · rw [OkL_iff] at h4
      have : ∀ js : List TreeTree, (∀ k ∈ js, szT k + 1 ≤ 2 * (lv k).length) → szL js + js.length ≤ 2 * (lvs js).length := by
        intro js
        induction js with
        | nil => intro _; simp [szL, lvs]
        | cons k js ihj =>
          intro h
          have h1 := h k (by simp)
          have h2 := ihj fun j hj => h j (by simp [hj])
          rw [szL, lvs, List.length_append, List.length_cons]
          omega
      have := this ks fun k hk => ih k hk (h4 k hk)
      rw [szT, lv, if_neg (by omega), if_pos hK]
      omega

theorem eqC_loop (l : List ApiContact) (hs : l.length ≤ 1000000) : ∀ (m i : Nat), i ≤ l.length → l.length - i < m → slices_Equal_api_Contact_L1 l l m (i : Int) = some true
  | 0, i, h, hm => absurd hm (Nat.not_lt_zero _)
  | m + 1, i, h, hm => by
    rw [slices_Equal_api_Contact_L1]
    by_cases hi : i < l.length
    · obtain ⟨x, hx⟩ := get_ex hi
      rw [if_pos (by simpa using hi), atI_nat, hx, Option.bind_some, Option.bind_some, if_neg (by simp), wrapN (by omega)]
      exact eqC_loop l hs m (i + 1) (by omega) (by omega)
    · rw [if_neg (by simpa using hi)]
theorem eqContacts (n : Nat) (l : List ApiContact) (hs : l.length ≤ 1000000) (hn : l.length < n) : slices_Equal_api_Contact n l l = some true := by
  rw [slices_Equal_api_Contact, if_neg (by simp), show (0 : Int) = ((0 : Nat) : Int) from rfl]
  exact eqC_loop l hs n 0 (by omega) (by omega)

theorem expand_law0 (n : Nat) (hn : 2000000 ≤ n) (hal : law15_alive n = some true) (t : TreeTree) (l : List ApiContact) (ht : szT t ≤ 1048576) : law15_ReduceExpandMatchesReference n t l = some true := by
  obtain ⟨b, h1⟩ := law14_TooLarge_some t n (by omega) (by omega)
  rw [law15_ReduceExpandMatchesReference, h1, Option.bind_some]
  by_cases c1 : b > 0
  · rw [if_pos (by simpa using c1), hal]; rfl
  rw [if_neg (by simpa using c1)]
  by_cases c2 : (l.length : Int) > 300
  · rw [if_pos (by simpa using c2), hal]; rfl
  rw [if_neg (by simpa using c2)]
  have fin : ∀ (l' : List ApiContact) (e : Int), l'.length ≤ 300 → reduce_Expand n t l = some (⟨(⟨#[]⟩ : Str), l', [], (⟨#[]⟩ : Str)⟩, e) → ref15_Expand n (ofT t) l = some (⟨(⟨#[]⟩ : Str), l', [], (⟨#[]⟩ : Str)⟩, e) →
      ((reduce_Expand n t l).bind fun x => (law14_Of n t).bind fun u => (ref15_Expand n u l).bind fun y => (law15_alive n).bind fun z => if z = true then (slices_Equal_api_Contact n x.1.Contacts y.1.Contacts).bind fun v => if v = true then (if (x.2 == y.2) = true then (if (decide (x.1.Label = (⟨#[]⟩ : Str))) = true then (if ((x.1.Coils.length : Int) == 0) = true then some (decide (x.1.Jump = (⟨#[]⟩ : Str))) else some false) else some false) else some false) else some false else some false) = some true := by
    intro l' e hl' q1 q2
    rw [q1, Option.bind_some, law14_Of_eq t n (by omega) (by omega), Option.bind_some, q2, Option.bind_some, hal, Option.bind_some, if_pos rfl, eqContacts n l' (by omega) (by omega), Option.bind_some, if_pos rfl]
    simp
  have hck := tree_Check_eq t (l.length : Int) n (by omega) (by omega)
  have hck2 := ref14_Check_eq t (l.length : Int) n (by omega) (by omega)
  by_cases hc : checkS t (l.length : Int) = 0
  · obtain ⟨g1, g2, g3⟩ := (checkS_iff t l.length).1 hc
    have hz := Ok_sz t g1
    obtain ⟨l', b', r1, r2, r3, _⟩ := lay_both t n ⟨(⟨#[76]⟩ : Str), (⟨#[82]⟩ : Str)⟩ l 0 g1 (by omega) (by omega) rfl (by omega)
    rw [show ((0 : Nat) : Int) = 0 from rfl] at r1 r2
    refine fin l' 0 (by omega) ?_ ?_
    · have hcl : slices_Clone_api_Contact_o0 n l = some l := by
        rw [slices_Clone_api_Contact_o0, isnilM]
        split
        · rename_i h0
          have : l = [] := List.length_eq_zero_iff.1 h0
          subst this
          rfl
        · rw [if_pos (by omega)]
      rw [reduce_Expand, hck, Option.bind_some, if_neg (by simp [hc]), hcl, Option.bind_some, r1]; rfl
    · rw [ref15_Expand, hck2, Option.bind_some, if_neg (by simp [hc]), if_pos (by omega), r2, Option.bind_some]
      dsimp only
      rw [if_pos r3]
  · refine fin [] (checkS t (l.length : Int)) (by simp) ?_ ?_
    · rw [reduce_Expand, hck, Option.bind_some, if_pos (by simpa using hc)]
    · rw [ref15_Expand, hck2, Option.bind_some, if_pos (by simpa using hc)]

theorem expand_law (t : TreeTree) (l : List ApiContact) (ht : szT t ≤ 1048576) : law15_ReduceExpandMatchesReference 2000000 t l = some true :=
  expand_law0 2000000 (Nat.le_refl _) alive15 t l ht
end Go.G

/- The contract of Contacts. -/
import Derived.Test.YtgbgmijighbfbaaT7
set_option linter.unusedSimpArgs false
set_option linter.unusedVariables false
namespace Go.Proofs.Ytgbgmijighbfbaa
open Go.Av
attribute [local simp] runf guardA opf St.ev Go.Av.look St.setd constAV constAV0 opBin opLen intBin St.need lookT TT0 tab resA resOne resAll blt_dec ble_dec beq_dec isPure
attribute [local simp] opMakeSlice opCopy opIndexAddr opLoad opStore St.mem St.rows opUn calleeA toArgs toArg toArg0 toArgs0 shift shift0 shift1 splice cellsOf isFree ofCells TS.isAgg isCell
attribute [local simp] aBools aState opBuildSlice fillA opAppend St.newBox runI valKind withinB readsHp refsD refs noSl opFieldAddr opBuild placeOf Op.operands Call.operands opIndex opExtract opSlice opField partA
attribute [local congr] bind_congr1 map_congr1 cond_congr1
attribute [local simp] aAddr rowB
set_option maxHeartbeats 4000000
set_option linter.unusedSimpArgs false

def contactsS (ins q m : List Bool) : List Ct → Nat → Int → List Bool → List Bool → (List Bool × List Bool) × Int
  | [], _, _, e, on => ((on, e), 0)
  | c :: cs, i, slot, e, on => if c.kind < 0 ∨ 4 ≤ c.kind then (([], []), 8)
    else if (readS ins q m c.sp c.n).2 ≠ 0 then (([], []), (readS ins q m c.sp c.n).2)
    else if seesS c.kind = true then
      if slot < 0 ∨ (e.length : Int) ≤ slot then (([], []), 3)
      else contactsS ins q m cs (i + 1) (slot + 1) (e.set slot.toNat (readS ins q m c.sp c.n).1) (on.set i (condS c.kind (readS ins q m c.sp c.n).1 (e.getD slot.toNat false)))
    else contactsS ins q m cs (i + 1) slot e (on.set i (condS c.kind (readS ins q m c.sp c.n).1 false))

structure KH where
  i : Nat
  slot : Int
  e : List Bool
  on : List Bool

def ctHead (ins q m : List Bool) (cs : List Ct) (el : Nat) (e0 : List Bool) (x : KH) : St :=
  { ch := [(1, aBools ins), (3, .int .i64 x.slot), (6, .hptr 0 0 0), (9, .hptr 1 0 0), (11, .hptr 2 0 0), (12, .sl 4 0 cs.length), (25, aCts cs), (26, .int .i64 cs.length), (27, .int .i64 x.i)],
    hp := [.var [aBools q, aBools m, aBools e0], .var [.nilsl, .nilsl, .nilsl], .var [aBools q, aBools m, .sl 3 0 el], .arr 1 el (rowB x.e), .arr 1 cs.length (rowB x.on)], base := 0, n := 88, cond := True }

theorem set_row {l : List Bool} {j k : Nat} {v : Bool} (hk : k < l.length) : (if k = j then [AV.bool v] else [AV.bool (l[k]?.getD false)]) = rowB (l.set j v) k := by
  simp only [rowB, List.getD]
  by_cases h : k = j
  · subst h; simp [hk]
  · rw [if_neg h, List.getElem?_set_ne (Ne.symm h)]

theorem rep_row {n k : Nat} (hk : k < n) : [AV.bool false] = rowB (List.replicate n false) k := by
  simp [rowB, List.getElem?_replicate, hk]

theorem contacts_con (lab j : ByteArray) (cs : List Ct) (os : List Co) (ins q m e0 : List Bool) (slot0 : Int) (hcs : cs.length ≤ 1000000) (hq : q.length ≤ 1000000) (hm : m.length ≤ 1000000) (he : e0.length ≤ 1000000) (hsl0 : slot0 ≤ 4611686018427387904) :
    Con Try.prog 21 [aRung lab cs os j, aBools ins, aState q m e0, .int .i64 slot0]
      (.tup [aBools (contactsS ins q m cs 0 slot0 e0 (List.replicate cs.length false)).1.1,
        (if (contactsS ins q m cs 0 slot0 e0 (List.replicate cs.length false)).2 = 0 then aState q m (contactsS ins q m cs 0 slot0 e0 (List.replicate cs.length false)).1.2 else aState [] [] []),
        .int .i64 (contactsS ins q m cs 0 slot0 e0 (List.replicate cs.length false)).2]) [] := by
  have hcl := sclone_own q m e0 hq hm he
  refine con_of (T := TT0) tt_ok Try.func21 (c := _) (by unfold Try.f21; rfl) Try.ntmps21 (rs := [.tmp 8, .cell 9 36, .tmp 10]) (by rw [Try.results21]) (by unfold Try.f21; rfl) (by simp) ?_
  simp only [argsCh, aRung, aState, aBools]
  refine Wp.reg_seq (own := fun _ => false) tt_ok ?_
  iterate 5
    refine regv_pure (s1 := ?_) rfl rfl ?_ ?_ ?_
    rotate_left
    · simp [aCts, aCos]; rfl
    · first | (simp [aCts, aCos]; done) | (simp [aCts, aCos]; omega) | (simp [aCts, aCos, rowsOf]; omega) | skip
  refine regv_nil ?_
  refine Wp.reg_seq (own := fun _ => false) tt_ok ?_
  iterate 1
    refine regv_pure (s1 := ?_) rfl rfl ?_ ?_ ?_
    rotate_left
    · simp [aCts, aCos]; rfl
    · first | (simp [aCts, aCos]; done) | (simp [aCts, aCos]; omega) | (simp [aCts, aCos, rowsOf]; omega) | skip
  refine regv_call (s' := ?_) (hcl) rfl rfl rfl rfl rfl ?_ ?_ ?_ ?_
  rotate_left 1
  · first | (simp [aCts, aCos]; done) | (simp [aCts, aCos]; omega) | (simp [aCts, aCos, rowsOf]; omega) | skip
  · simp
  · simp [aCts, aCos]; rfl
  iterate 2
    refine regv_pure (s1 := ?_) rfl rfl ?_ ?_ ?_
    rotate_left
    · simp [aCts, aCos]; rfl
    · first | (simp [aCts, aCos]; done) | (simp [aCts, aCos]; omega) | (simp [aCts, aCos, rowsOf]; omega) | skip
  refine regv_nil ?_
  refine Wp.reg_seq (own := fun _ => false) tt_ok ?_
  iterate 5
    refine regv_pure (s1 := ?_) rfl rfl ?_ ?_ ?_
    rotate_left
    · simp [aCts, aCos]; rfl
    · first | (simp [aCts, aCos]; done) | (simp [aCts, aCos]; omega) | (simp [aCts, aCos, rowsOf]; omega) | skip
  refine regv_nil ?_
  refine Wp.seq ?_
  refine Wp.reg_seq (own := fun _ => false) tt_ok ?_
  iterate 4
    refine regv_pure (s1 := ?_) rfl rfl ?_ ?_ ?_
    rotate_left
    · simp [aCts, aCos]; rfl
    · first | (simp [aCts, aCos]; done) | (simp [aCts, aCos]; omega) | (simp [aCts, aCos, rowsOf]; omega) | skip
  refine regv_nil ?_
  refine Wp.block ?_
  refine Wp.loop (α := KH) (ctHead ins q m cs e0.length e0) (fun x => cs.length - x.i) (fun x => x.i ≤ cs.length ∧ contactsS ins q m cs 0 slot0 e0 (List.replicate cs.length false) = contactsS ins q m (cs.drop x.i) x.i x.slot x.e x.on ∧ x.e.length = e0.length ∧ x.on.length = cs.length ∧ x.slot ≤ 4611686018427387904) ?_ (⟨0, slot0, e0, List.replicate cs.length false⟩) ?_ ?_
  rotate_left
  ·
    exact ⟨Nat.zero_le _, rfl, rfl, by simp, hsl0⟩
  ·
    refine Reloc.mk2 [some 1, some 2, some 4, some 3, some 5] rfl rfl rfl (by decide) ?_ ?_
    · repeat' first | exact objsLe_nil | refine objsLe_cons ?_ ?_
      all_goals first
        | (refine ObjLe.var' rfl rfl ?_ rfl
           repeat' first | exact All2.nil | refine All2.cons ?_ ?_
           all_goals first | (exact AvLe.refl _ rfl) | (exact AvLe.hptr _ _ _ _ rfl) | (exact AvLe.sl _ _ _ _ rfl) | (exact AvLe.sl' rfl (by simp) (by simp)) | (exact AvLe.mp _ _ rfl) | (exact AvLe.nil _) | (exact AvLe.ghost _ rfl) | (exact AvLe.eq (by simp [aCts, aCos]; done) rfl) | (exact ObjLe.arr' rfl rfl (Nat.le_refl _) (fun k hk => rep_row (by omega))))
        | (exact ObjLe.map' rfl rfl)
        | (exact ObjLe.ghost' rfl (by decide))
        | (exact ObjLe.arr' rfl rfl (by first | (simp; done) | (simp; omega)) (fun _ _ => rfl))
        | (exact ObjLe.arr' rfl rfl (Nat.le_refl _) (fun k hk => rep_row (by omega)))
    · repeat' first | exact chLe_nil | refine chLe_cons ?_ ?_
      all_goals first
        | (exact AvLe.refl _ rfl)
        | (exact AvLe.hptr _ _ _ _ rfl)
        | (exact AvLe.sl _ _ _ _ rfl)
        | (exact AvLe.sl' rfl (by simp) (by simp))
        | (exact AvLe.mp _ _ rfl)
        | (exact AvLe.nil _)
        | (exact AvLe.ghost _ rfl)
        | (exact AvLe.eq (by simp [aCts, aCos]; done) rfl)
        | (exact ObjLe.arr' rfl rfl (Nat.le_refl _) (fun k hk => rep_row (by omega)))
  rintro ⟨i, slot, e, onl⟩ ⟨hile, hspec, hel, hol, hsl⟩
  simp only [ctHead]
  simp only at hile hspec hel hol hsl
  rcases Nat.lt_or_ge i cs.length with hi | hi
  ·
    obtain ⟨c, hc⟩ : ∃ c, cs[i]? = some c := ⟨cs[i], List.getElem?_eq_getElem hi⟩
    have hlt : (i : Int) < cs.length := by omega
    have hwrap := wrap_succ i (by omega)
    have hdrop : cs.drop i = c :: cs.drop (i + 1) := by rw [List.drop_eq_getElem_cons hi]; congr 1; rw [List.getElem?_eq_getElem hi] at hc; exact Option.some.inj hc
    rw [hdrop] at hspec
    simp only [contactsS] at hspec
    rcases (show c.kind < 0 ∨ 4 ≤ c.kind ∨ (0 ≤ c.kind ∧ c.kind < 4) by omega) with hk | hk | hk
    ·
      rw [if_pos (.inl hk)] at hspec
      refine Wp.reg_seq (own := fun _ => false) tt_ok ?_
      iterate 1
        refine regv_pure (s1 := ?_) rfl rfl ?_ ?_ ?_
        rotate_left
        · simp [aCts, aCos, hc, hlt, rowCt, hwrap, hol, hk]; rfl
        · first | (simp [aCts, aCos, hc, hlt, rowCt, hwrap, hol, hk]; done) | (simp [aCts, aCos, hc, hlt, rowCt, hwrap, hol, hk]; omega) | (simp [aCts, aCos, hc, hlt, rowCt, hwrap, hol, hk, rowsOf]; omega) | skip
      refine regv_nil ?_
      refine Wp.seq ?_
      refine Wp.cond true rfl (fun _ => ?_) (fun h => by cases h)
      refine Wp.skip ?_
      show Wp _ _ _ _
      refine Wp.seq ?_
      refine Wp.block ?_
      refine Wp.reg_seq (own := fun _ => false) tt_ok ?_
      iterate 6
        refine regv_pure (s1 := ?_) rfl rfl ?_ ?_ ?_
        rotate_left
        · simp [aCts, aCos, hc, hlt, rowCt, hwrap, hol, hk]; rfl
        · first | (simp [aCts, aCos, hc, hlt, rowCt, hwrap, hol, hk]; done) | (simp [aCts, aCos, hc, hlt, rowCt, hwrap, hol, hk]; omega) | (simp [aCts, aCos, hc, hlt, rowCt, hwrap, hol, hk, rowsOf]; omega) | skip
      refine regv_nil ?_
      refine Wp.seq ?_
      refine Wp.reg_seq (own := fun _ => false) tt_ok ?_
      iterate 4
        refine regv_pure (s1 := ?_) rfl rfl ?_ ?_ ?_
        rotate_left
        · simp [aCts, aCos, hc, hlt, rowCt, hwrap, hol, hk]; rfl
        · first | (simp [aCts, aCos, hc, hlt, rowCt, hwrap, hol, hk]; done) | (simp [aCts, aCos, hc, hlt, rowCt, hwrap, hol, hk]; omega) | (simp [aCts, aCos, hc, hlt, rowCt, hwrap, hol, hk, rowsOf]; omega) | skip
      first
        | (refine regv_pure (s1 := ?_) rfl ?_ ?_ ?_ ?_
           rotate_left
           · simp [aCts, aCos, hc, hlt, rowCt, hwrap, hol, hk]; done
           · simp [aCts, aCos, hc, hlt, rowCt, hwrap, hol, hk]; rfl
           · first | (simp [aCts, aCos, hc, hlt, rowCt, hwrap, hol, hk]; done) | (simp [aCts, aCos, hc, hlt, rowCt, hwrap, hol, hk]; omega) | (simp [aCts, aCos, hc, hlt, rowCt, hwrap, hol, hk, rowsOf]; omega) | skip)
        | (refine regv_skip (s1 := ?_) ?_ ?_ ?_
           rotate_left
           · simp [aCts, aCos, hc, hlt, rowCt, hwrap, hol, hk]; done
           · simp [aCts, aCos, hc, hlt, rowCt, hwrap, hol, hk]; rfl)
      first
        | (refine regv_pure (s1 := ?_) rfl ?_ ?_ ?_ ?_
           rotate_left
           · simp [aCts, aCos, hc, hlt, rowCt, hwrap, hol, hk]; done
           · simp [aCts, aCos, hc, hlt, rowCt, hwrap, hol, hk]; rfl
           · first | (simp [aCts, aCos, hc, hlt, rowCt, hwrap, hol, hk]; done) | (simp [aCts, aCos, hc, hlt, rowCt, hwrap, hol, hk]; omega) | (simp [aCts, aCos, hc, hlt, rowCt, hwrap, hol, hk, rowsOf]; omega) | skip)
        | (refine regv_skip (s1 := ?_) ?_ ?_ ?_
           rotate_left
           · simp [aCts, aCos, hc, hlt, rowCt, hwrap, hol, hk]; done
           · simp [aCts, aCos, hc, hlt, rowCt, hwrap, hol, hk]; rfl)
      first
        | (refine regv_pure (s1 := ?_) rfl ?_ ?_ ?_ ?_
           rotate_left
           · simp [aCts, aCos, hc, hlt, rowCt, hwrap, hol, hk]; done
           · simp [aCts, aCos, hc, hlt, rowCt, hwrap, hol, hk]; rfl
           · first | (simp [aCts, aCos, hc, hlt, rowCt, hwrap, hol, hk]; done) | (simp [aCts, aCos, hc, hlt, rowCt, hwrap, hol, hk]; omega) | (simp [aCts, aCos, hc, hlt, rowCt, hwrap, hol, hk, rowsOf]; omega) | skip)
        | (refine regv_skip (s1 := ?_) ?_ ?_ ?_
           rotate_left
           · simp [aCts, aCos, hc, hlt, rowCt, hwrap, hol, hk]; done
           · simp [aCts, aCos, hc, hlt, rowCt, hwrap, hol, hk]; rfl)
      iterate 1
        refine regv_pure (s1 := ?_) rfl rfl ?_ ?_ ?_
        rotate_left
        · simp [aCts, aCos, hc, hlt, rowCt, hwrap, hol, hk]; rfl
        · first | (simp [aCts, aCos, hc, hlt, rowCt, hwrap, hol, hk]; done) | (simp [aCts, aCos, hc, hlt, rowCt, hwrap, hol, hk]; omega) | (simp [aCts, aCos, hc, hlt, rowCt, hwrap, hol, hk, rowsOf]; omega) | skip
      refine regv_nil ?_
      refine Wp.cond true rfl (fun _ => ?_) (fun h => by cases h)
      refine Wp.reg_seq (own := fun _ => false) tt_ok ?_
      iterate 4
        refine regv_pure (s1 := ?_) rfl rfl ?_ ?_ ?_
        rotate_left
        · simp [aCts, aCos, hc, hlt, rowCt, hwrap, hol, hk]; rfl
        · first | (simp [aCts, aCos, hc, hlt, rowCt, hwrap, hol, hk]; done) | (simp [aCts, aCos, hc, hlt, rowCt, hwrap, hol, hk]; omega) | (simp [aCts, aCos, hc, hlt, rowCt, hwrap, hol, hk, rowsOf]; omega) | skip
      refine regv_nil ?_
      refine Wp.ret (endQ_ret0 rfl ?_)
      rw [hspec, if_neg (by decide)]; exact .tups (.cons (.nil _) (.cons (.aggs (.cons (.nil _) (.cons (.nil _) (.cons (.nil _) .nil)))) (.cons (.refl _ rfl) .nil)))
    ·
      have h0 : ¬ c.kind < 0 := by omega
      rw [if_pos (.inr hk)] at hspec
      refine Wp.reg_seq (own := fun _ => false) tt_ok ?_
      iterate 1
        refine regv_pure (s1 := ?_) rfl rfl ?_ ?_ ?_
        rotate_left
        · simp [aCts, aCos, hc, hlt, rowCt, hwrap, hol, hk, h0]; rfl
        · first | (simp [aCts, aCos, hc, hlt, rowCt, hwrap, hol, hk, h0]; done) | (simp [aCts, aCos, hc, hlt, rowCt, hwrap, hol, hk, h0]; omega) | (simp [aCts, aCos, hc, hlt, rowCt, hwrap, hol, hk, h0, rowsOf]; omega) | skip
      refine regv_nil ?_
      refine Wp.seq ?_
      refine Wp.cond true rfl (fun _ => ?_) (fun h => by cases h)
      refine Wp.skip ?_
      show Wp _ _ _ _
      refine Wp.seq ?_
      refine Wp.block ?_
      refine Wp.reg_seq (own := fun _ => false) tt_ok ?_
      iterate 6
        refine regv_pure (s1 := ?_) rfl rfl ?_ ?_ ?_
        rotate_left
        · simp [aCts, aCos, hc, hlt, rowCt, hwrap, hol, hk, h0]; rfl
        · first | (simp [aCts, aCos, hc, hlt, rowCt, hwrap, hol, hk, h0]; done) | (simp [aCts, aCos, hc, hlt, rowCt, hwrap, hol, hk, h0]; omega) | (simp [aCts, aCos, hc, hlt, rowCt, hwrap, hol, hk, h0, rowsOf]; omega) | skip
      refine regv_nil ?_
      refine Wp.seq ?_
      refine Wp.reg_seq (own := fun _ => false) tt_ok ?_
      iterate 4
        refine regv_pure (s1 := ?_) rfl rfl ?_ ?_ ?_
        rotate_left
        · simp [aCts, aCos, hc, hlt, rowCt, hwrap, hol, hk, h0]; rfl
        · first | (simp [aCts, aCos, hc, hlt, rowCt, hwrap, hol, hk, h0]; done) | (simp [aCts, aCos, hc, hlt, rowCt, hwrap, hol, hk, h0]; omega) | (simp [aCts, aCos, hc, hlt, rowCt, hwrap, hol, hk, h0, rowsOf]; omega) | skip
      first
        | (refine regv_pure (s1 := ?_) rfl ?_ ?_ ?_ ?_
           rotate_left
           · simp [aCts, aCos, hc, hlt, rowCt, hwrap, hol, hk, h0]; done
           · simp [aCts, aCos, hc, hlt, rowCt, hwrap, hol, hk, h0]; rfl
           · first | (simp [aCts, aCos, hc, hlt, rowCt, hwrap, hol, hk, h0]; done) | (simp [aCts, aCos, hc, hlt, rowCt, hwrap, hol, hk, h0]; omega) | (simp [aCts, aCos, hc, hlt, rowCt, hwrap, hol, hk, h0, rowsOf]; omega) | skip)
        | (refine regv_skip (s1 := ?_) ?_ ?_ ?_
           rotate_left
           · simp [aCts, aCos, hc, hlt, rowCt, hwrap, hol, hk, h0]; done
           · simp [aCts, aCos, hc, hlt, rowCt, hwrap, hol, hk, h0]; rfl)
      first
        | (refine regv_pure (s1 := ?_) rfl ?_ ?_ ?_ ?_
           rotate_left
           · simp [aCts, aCos, hc, hlt, rowCt, hwrap, hol, hk, h0]; done
           · simp [aCts, aCos, hc, hlt, rowCt, hwrap, hol, hk, h0]; rfl
           · first | (simp [aCts, aCos, hc, hlt, rowCt, hwrap, hol, hk, h0]; done) | (simp [aCts, aCos, hc, hlt, rowCt, hwrap, hol, hk, h0]; omega) | (simp [aCts, aCos, hc, hlt, rowCt, hwrap, hol, hk, h0, rowsOf]; omega) | skip)
        | (refine regv_skip (s1 := ?_) ?_ ?_ ?_
           rotate_left
           · simp [aCts, aCos, hc, hlt, rowCt, hwrap, hol, hk, h0]; done
           · simp [aCts, aCos, hc, hlt, rowCt, hwrap, hol, hk, h0]; rfl)
      first
        | (refine regv_pure (s1 := ?_) rfl ?_ ?_ ?_ ?_
           rotate_left
           · simp [aCts, aCos, hc, hlt, rowCt, hwrap, hol, hk, h0]; done
           · simp [aCts, aCos, hc, hlt, rowCt, hwrap, hol, hk, h0]; rfl
           · first | (simp [aCts, aCos, hc, hlt, rowCt, hwrap, hol, hk, h0]; done) | (simp [aCts, aCos, hc, hlt, rowCt, hwrap, hol, hk, h0]; omega) | (simp [aCts, aCos, hc, hlt, rowCt, hwrap, hol, hk, h0, rowsOf]; omega) | skip)
        | (refine regv_skip (s1 := ?_) ?_ ?_ ?_
           rotate_left
           · simp [aCts, aCos, hc, hlt, rowCt, hwrap, hol, hk, h0]; done
           · simp [aCts, aCos, hc, hlt, rowCt, hwrap, hol, hk, h0]; rfl)
      iterate 1
        refine regv_pure (s1 := ?_) rfl rfl ?_ ?_ ?_
        rotate_left
        · simp [aCts, aCos, hc, hlt, rowCt, hwrap, hol, hk, h0]; rfl
        · first | (simp [aCts, aCos, hc, hlt, rowCt, hwrap, hol, hk, h0]; done) | (simp [aCts, aCos, hc, hlt, rowCt, hwrap, hol, hk, h0]; omega) | (simp [aCts, aCos, hc, hlt, rowCt, hwrap, hol, hk, h0, rowsOf]; omega) | skip
      refine regv_nil ?_
      refine Wp.cond true rfl (fun _ => ?_) (fun h => by cases h)
      refine Wp.reg_seq (own := fun _ => false) tt_ok ?_
      iterate 4
        refine regv_pure (s1 := ?_) rfl rfl ?_ ?_ ?_
        rotate_left
        · simp [aCts, aCos, hc, hlt, rowCt, hwrap, hol, hk, h0]; rfl
        · first | (simp [aCts, aCos, hc, hlt, rowCt, hwrap, hol, hk, h0]; done) | (simp [aCts, aCos, hc, hlt, rowCt, hwrap, hol, hk, h0]; omega) | (simp [aCts, aCos, hc, hlt, rowCt, hwrap, hol, hk, h0, rowsOf]; omega) | skip
      refine regv_nil ?_
      refine Wp.ret (endQ_ret0 rfl ?_)
      rw [hspec, if_neg (by decide)]; exact .tups (.cons (.nil _) (.cons (.aggs (.cons (.nil _) (.cons (.nil _) (.cons (.nil _) .nil)))) (.cons (.refl _ rfl) .nil)))
    ·
      have h0 : ¬ c.kind < 0 := by omega
      have h4 : ¬ 4 ≤ c.kind := by omega
      rw [if_neg (by omega)] at hspec
      have hrd := read_con ins q m e0 c.sp c.n
      have hsee := sees_con c
      by_cases hw : (readS ins q m c.sp c.n).2 = 0
      ·
        rw [if_neg (by simp [hw])] at hspec
        have hw' : ((readS ins q m c.sp c.n).2 != 0) = false := by simp [hw]
        cases hse : seesS c.kind
        ·
          rw [hse] at hspec hsee
          rw [if_neg (by decide)] at hspec
          have hcn := conducting_con c.kind (readS ins q m c.sp c.n).1 false hk.1 hk.2
          refine Wp.reg_seq (own := fun _ => false) tt_ok ?_
          iterate 1
            refine regv_pure (s1 := ?_) rfl rfl ?_ ?_ ?_
            rotate_left
            · simp [aCts, aCos, hc, hlt, rowCt, hwrap, hol, h0, h4, hw']; rfl
            · first | (simp [aCts, aCos, hc, hlt, rowCt, hwrap, hol, h0, h4, hw']; done) | (simp [aCts, aCos, hc, hlt, rowCt, hwrap, hol, h0, h4, hw']; omega) | (simp [aCts, aCos, hc, hlt, rowCt, hwrap, hol, h0, h4, hw', rowsOf]; omega) | skip
          refine regv_nil ?_
          refine Wp.seq ?_
          refine Wp.cond true rfl (fun _ => ?_) (fun h => by cases h)
          refine Wp.skip ?_
          show Wp _ _ _ _
          refine Wp.seq ?_
          refine Wp.block ?_
          refine Wp.reg_seq (own := fun _ => false) tt_ok ?_
          iterate 6
            refine regv_pure (s1 := ?_) rfl rfl ?_ ?_ ?_
            rotate_left
            · simp [aCts, aCos, hc, hlt, rowCt, hwrap, hol, h0, h4, hw']; rfl
            · first | (simp [aCts, aCos, hc, hlt, rowCt, hwrap, hol, h0, h4, hw']; done) | (simp [aCts, aCos, hc, hlt, rowCt, hwrap, hol, h0, h4, hw']; omega) | (simp [aCts, aCos, hc, hlt, rowCt, hwrap, hol, h0, h4, hw', rowsOf]; omega) | skip
          refine regv_nil ?_
          refine Wp.seq ?_
          refine Wp.reg_seq (own := fun _ => false) tt_ok ?_
          iterate 4
            refine regv_pure (s1 := ?_) rfl rfl ?_ ?_ ?_
            rotate_left
            · simp [aCts, aCos, hc, hlt, rowCt, hwrap, hol, h0, h4, hw']; rfl
            · first | (simp [aCts, aCos, hc, hlt, rowCt, hwrap, hol, h0, h4, hw']; done) | (simp [aCts, aCos, hc, hlt, rowCt, hwrap, hol, h0, h4, hw']; omega) | (simp [aCts, aCos, hc, hlt, rowCt, hwrap, hol, h0, h4, hw', rowsOf]; omega) | skip
          first
            | (refine regv_pure (s1 := ?_) rfl ?_ ?_ ?_ ?_
               rotate_left
               · simp [aCts, aCos, hc, hlt, rowCt, hwrap, hol, h0, h4, hw']; done
               · simp [aCts, aCos, hc, hlt, rowCt, hwrap, hol, h0, h4, hw']; rfl
               · first | (simp [aCts, aCos, hc, hlt, rowCt, hwrap, hol, h0, h4, hw']; done) | (simp [aCts, aCos, hc, hlt, rowCt, hwrap, hol, h0, h4, hw']; omega) | (simp [aCts, aCos, hc, hlt, rowCt, hwrap, hol, h0, h4, hw', rowsOf]; omega) | skip)
            | (refine regv_skip (s1 := ?_) ?_ ?_ ?_
               rotate_left
               · simp [aCts, aCos, hc, hlt, rowCt, hwrap, hol, h0, h4, hw']; done
               · simp [aCts, aCos, hc, hlt, rowCt, hwrap, hol, h0, h4, hw']; rfl)
          first
            | (refine regv_pure (s1 := ?_) rfl ?_ ?_ ?_ ?_
               rotate_left
               · simp [aCts, aCos, hc, hlt, rowCt, hwrap, hol, h0, h4, hw']; done
               · simp [aCts, aCos, hc, hlt, rowCt, hwrap, hol, h0, h4, hw']; rfl
               · first | (simp [aCts, aCos, hc, hlt, rowCt, hwrap, hol, h0, h4, hw']; done) | (simp [aCts, aCos, hc, hlt, rowCt, hwrap, hol, h0, h4, hw']; omega) | (simp [aCts, aCos, hc, hlt, rowCt, hwrap, hol, h0, h4, hw', rowsOf]; omega) | skip)
            | (refine regv_skip (s1 := ?_) ?_ ?_ ?_
               rotate_left
               · simp [aCts, aCos, hc, hlt, rowCt, hwrap, hol, h0, h4, hw']; done
               · simp [aCts, aCos, hc, hlt, rowCt, hwrap, hol, h0, h4, hw']; rfl)
          first
            | (refine regv_pure (s1 := ?_) rfl ?_ ?_ ?_ ?_
               rotate_left
               · simp [aCts, aCos, hc, hlt, rowCt, hwrap, hol, h0, h4, hw']; done
               · simp [aCts, aCos, hc, hlt, rowCt, hwrap, hol, h0, h4, hw']; rfl
               · first | (simp [aCts, aCos, hc, hlt, rowCt, hwrap, hol, h0, h4, hw']; done) | (simp [aCts, aCos, hc, hlt, rowCt, hwrap, hol, h0, h4, hw']; omega) | (simp [aCts, aCos, hc, hlt, rowCt, hwrap, hol, h0, h4, hw', rowsOf]; omega) | skip)
            | (refine regv_skip (s1 := ?_) ?_ ?_ ?_
               rotate_left
               · simp [aCts, aCos, hc, hlt, rowCt, hwrap, hol, h0, h4, hw']; done
               · simp [aCts, aCos, hc, hlt, rowCt, hwrap, hol, h0, h4, hw']; rfl)
          iterate 1
            refine regv_pure (s1 := ?_) rfl rfl ?_ ?_ ?_
            rotate_left
            · simp [aCts, aCos, hc, hlt, rowCt, hwrap, hol, h0, h4, hw']; rfl
            · first | (simp [aCts, aCos, hc, hlt, rowCt, hwrap, hol, h0, h4, hw']; done) | (simp [aCts, aCos, hc, hlt, rowCt, hwrap, hol, h0, h4, hw']; omega) | (simp [aCts, aCos, hc, hlt, rowCt, hwrap, hol, h0, h4, hw', rowsOf]; omega) | skip
          refine regv_nil ?_
          refine Wp.cond false rfl (fun h => by cases h) (fun _ => ?_)
          refine Wp.skip ?_
          show Wp _ _ _ _
          refine Wp.reg_seq (own := fun _ => false) tt_ok ?_
          iterate 4
            refine regv_pure (s1 := ?_) rfl rfl ?_ ?_ ?_
            rotate_left
            · simp [aCts, aCos, hc, hlt, rowCt, hwrap, hol, h0, h4, hw']; rfl
            · first | (simp [aCts, aCos, hc, hlt, rowCt, hwrap, hol, h0, h4, hw']; done) | (simp [aCts, aCos, hc, hlt, rowCt, hwrap, hol, h0, h4, hw']; omega) | (simp [aCts, aCos, hc, hlt, rowCt, hwrap, hol, h0, h4, hw', rowsOf]; omega) | skip
          refine regv_call (s' := ?_) (hrd) rfl rfl rfl rfl rfl ?_ ?_ ?_ ?_
          rotate_left 1
          · first | (simp [aCts, aCos, hc, hlt, rowCt, hwrap, hol, h0, h4, hw']; done) | (simp [aCts, aCos, hc, hlt, rowCt, hwrap, hol, h0, h4, hw']; omega) | (simp [aCts, aCos, hc, hlt, rowCt, hwrap, hol, h0, h4, hw', rowsOf]; omega) | skip
          · simp
          · simp [aCts, aCos, hc, hlt, rowCt, hwrap, hol, h0, h4, hw']; rfl
          iterate 5
            refine regv_pure (s1 := ?_) rfl rfl ?_ ?_ ?_
            rotate_left
            · simp [aCts, aCos, hc, hlt, rowCt, hwrap, hol, h0, h4, hw']; rfl
            · first | (simp [aCts, aCos, hc, hlt, rowCt, hwrap, hol, h0, h4, hw']; done) | (simp [aCts, aCos, hc, hlt, rowCt, hwrap, hol, h0, h4, hw']; omega) | (simp [aCts, aCos, hc, hlt, rowCt, hwrap, hol, h0, h4, hw', rowsOf]; omega) | skip
          refine regv_nil ?_
          refine Wp.seq ?_
          refine Wp.reg_seq (own := fun _ => false) tt_ok ?_
          iterate 2
            refine regv_pure (s1 := ?_) rfl rfl ?_ ?_ ?_
            rotate_left
            · simp [aCts, aCos, hc, hlt, rowCt, hwrap, hol, h0, h4, hw']; rfl
            · first | (simp [aCts, aCos, hc, hlt, rowCt, hwrap, hol, h0, h4, hw']; done) | (simp [aCts, aCos, hc, hlt, rowCt, hwrap, hol, h0, h4, hw']; omega) | (simp [aCts, aCos, hc, hlt, rowCt, hwrap, hol, h0, h4, hw', rowsOf]; omega) | skip
          refine regv_nil ?_
          refine Wp.cond false rfl (fun h => by cases h) (fun _ => ?_)
          refine Wp.skip ?_
          show Wp _ _ _ _
          refine Wp.reg_seq (own := fun _ => false) tt_ok ?_
          iterate 1
            refine regv_pure (s1 := ?_) rfl rfl ?_ ?_ ?_
            rotate_left
            · simp [aCts, aCos, hc, hlt, rowCt, hwrap, hol, h0, h4, hw']; rfl
            · first | (simp [aCts, aCos, hc, hlt, rowCt, hwrap, hol, h0, h4, hw']; done) | (simp [aCts, aCos, hc, hlt, rowCt, hwrap, hol, h0, h4, hw']; omega) | (simp [aCts, aCos, hc, hlt, rowCt, hwrap, hol, h0, h4, hw', rowsOf]; omega) | skip
          refine regv_nil ?_
          refine Wp.seq ?_
          refine Wp.reg_seq (own := fun _ => false) tt_ok ?_
          iterate 1
            refine regv_pure (s1 := ?_) rfl rfl ?_ ?_ ?_
            rotate_left
            · simp [aCts, aCos, hc, hlt, rowCt, hwrap, hol, h0, h4, hw']; rfl
            · first | (simp [aCts, aCos, hc, hlt, rowCt, hwrap, hol, h0, h4, hw']; done) | (simp [aCts, aCos, hc, hlt, rowCt, hwrap, hol, h0, h4, hw']; omega) | (simp [aCts, aCos, hc, hlt, rowCt, hwrap, hol, h0, h4, hw', rowsOf]; omega) | skip
          refine regv_call (s' := ?_) (hsee) rfl rfl rfl rfl rfl ?_ ?_ ?_ ?_
          rotate_left 1
          · first | (simp [aCts, aCos, hc, hlt, rowCt, hwrap, hol, h0, h4, hw']; done) | (simp [aCts, aCos, hc, hlt, rowCt, hwrap, hol, h0, h4, hw']; omega) | (simp [aCts, aCos, hc, hlt, rowCt, hwrap, hol, h0, h4, hw', rowsOf]; omega) | skip
          · simp
          · simp [aCts, aCos, hc, hlt, rowCt, hwrap, hol, h0, h4, hw']; rfl
          refine regv_nil ?_
          refine Wp.cond false rfl (fun h => by cases h) (fun _ => ?_)
          refine Wp.skip ?_
          show Wp _ _ _ _
          refine Wp.reg (own := fun _ => false) tt_ok ?_
          iterate 6
            refine regv_pure (s1 := ?_) rfl rfl ?_ ?_ ?_
            rotate_left
            · simp [aCts, aCos, hc, hlt, rowCt, hwrap, hol, h0, h4, hw']; rfl
            · first | (simp [aCts, aCos, hc, hlt, rowCt, hwrap, hol, h0, h4, hw']; done) | (simp [aCts, aCos, hc, hlt, rowCt, hwrap, hol, h0, h4, hw']; omega) | (simp [aCts, aCos, hc, hlt, rowCt, hwrap, hol, h0, h4, hw', rowsOf]; omega) | skip
          refine regv_call (s' := ?_) (hcn) rfl rfl rfl rfl rfl ?_ ?_ ?_ ?_
          rotate_left 1
          · first | (simp [aCts, aCos, hc, hlt, rowCt, hwrap, hol, h0, h4, hw']; done) | (simp [aCts, aCos, hc, hlt, rowCt, hwrap, hol, h0, h4, hw']; omega) | (simp [aCts, aCos, hc, hlt, rowCt, hwrap, hol, h0, h4, hw', rowsOf]; omega) | skip
          · simp
          · simp [aCts, aCos, hc, hlt, rowCt, hwrap, hol, h0, h4, hw']; rfl
          iterate 2
            refine regv_pure (s1 := ?_) rfl rfl ?_ ?_ ?_
            rotate_left
            · simp [aCts, aCos, hc, hlt, rowCt, hwrap, hol, h0, h4, hw']; rfl
            · first | (simp [aCts, aCos, hc, hlt, rowCt, hwrap, hol, h0, h4, hw']; done) | (simp [aCts, aCos, hc, hlt, rowCt, hwrap, hol, h0, h4, hw']; omega) | (simp [aCts, aCos, hc, hlt, rowCt, hwrap, hol, h0, h4, hw', rowsOf]; omega) | skip
          refine regv_nil ?_
          show Wp _ _ _ _
          refine Wp.reg (own := fun _ => false) tt_ok ?_
          iterate 2
            refine regv_pure (s1 := ?_) rfl rfl ?_ ?_ ?_
            rotate_left
            · simp [aCts, aCos, hc, hlt, rowCt, hwrap, hol, h0, h4, hw']; rfl
            · first | (simp [aCts, aCos, hc, hlt, rowCt, hwrap, hol, h0, h4, hw']; done) | (simp [aCts, aCos, hc, hlt, rowCt, hwrap, hol, h0, h4, hw']; omega) | (simp [aCts, aCos, hc, hlt, rowCt, hwrap, hol, h0, h4, hw', rowsOf]; omega) | skip
          refine regv_nil ?_
          refine loopQ_next ⟨i + 1, slot, e, onl.set i (condS c.kind (readS ins q m c.sp c.n).1 false)⟩ ⟨by simp only; omega, hspec, hel, by simpa using hol, hsl⟩ (by simp only; omega) ?_
          refine Reloc.mk2 [some 0, some 1, some 2, some 3, some 4] rfl rfl rfl (by decide) ?_ ?_
          · repeat' first | exact objsLe_nil | refine objsLe_cons ?_ ?_
            all_goals first
              | (refine ObjLe.var' rfl rfl ?_ rfl
                 repeat' first | exact All2.nil | refine All2.cons ?_ ?_
                 all_goals first | (exact AvLe.refl _ rfl) | (exact AvLe.hptr _ _ _ _ rfl) | (exact AvLe.sl _ _ _ _ rfl) | (exact AvLe.sl' rfl (by simp) (by simp)) | (exact AvLe.mp _ _ rfl) | (exact AvLe.nil _) | (exact AvLe.ghost _ rfl) | (exact AvLe.eq (by simp [aCts, aCos, hc, hlt, rowCt, hwrap, hol, h0, h4, hw']; done) rfl) | (exact ObjLe.arr' rfl rfl (Nat.le_refl _) (fun k hk => set_row (by omega))))
              | (exact ObjLe.map' rfl rfl)
              | (exact ObjLe.ghost' rfl (by decide))
              | (exact ObjLe.arr' rfl rfl (by first | (simp; done) | (simp; omega)) (fun _ _ => rfl))
              | (exact ObjLe.arr' rfl rfl (Nat.le_refl _) (fun k hk => set_row (by omega)))
          · repeat' first | exact chLe_nil | refine chLe_cons ?_ ?_
            all_goals first
              | (exact AvLe.refl _ rfl)
              | (exact AvLe.hptr _ _ _ _ rfl)
              | (exact AvLe.sl _ _ _ _ rfl)
              | (exact AvLe.sl' rfl (by simp) (by simp))
              | (exact AvLe.mp _ _ rfl)
              | (exact AvLe.nil _)
              | (exact AvLe.ghost _ rfl)
              | (exact AvLe.eq (by simp [aCts, aCos, hc, hlt, rowCt, hwrap, hol, h0, h4, hw']; done) rfl)
              | (exact ObjLe.arr' rfl rfl (Nat.le_refl _) (fun k hk => set_row (by omega)))
        ·
          rw [hse] at hspec hsee
          rw [if_pos rfl] at hspec
          rcases (show slot < 0 ∨ (e.length : Int) ≤ slot ∨ (0 ≤ slot ∧ slot < e.length) by omega) with hs | hs | hs
          ·
            rw [if_pos (.inl hs)] at hspec
            refine Wp.reg_seq (own := fun _ => false) tt_ok ?_
            iterate 1
              refine regv_pure (s1 := ?_) rfl rfl ?_ ?_ ?_
              rotate_left
              · simp [aCts, aCos, hc, hlt, rowCt, hwrap, hol, h0, h4, hw', hs]; rfl
              · first | (simp [aCts, aCos, hc, hlt, rowCt, hwrap, hol, h0, h4, hw', hs]; done) | (simp [aCts, aCos, hc, hlt, rowCt, hwrap, hol, h0, h4, hw', hs]; omega) | (simp [aCts, aCos, hc, hlt, rowCt, hwrap, hol, h0, h4, hw', hs, rowsOf]; omega) | skip
            refine regv_nil ?_
            refine Wp.seq ?_
            refine Wp.cond true rfl (fun _ => ?_) (fun h => by cases h)
            refine Wp.skip ?_
            show Wp _ _ _ _
            refine Wp.seq ?_
            refine Wp.block ?_
            refine Wp.reg_seq (own := fun _ => false) tt_ok ?_
            iterate 6
              refine regv_pure (s1 := ?_) rfl rfl ?_ ?_ ?_
              rotate_left
              · simp [aCts, aCos, hc, hlt, rowCt, hwrap, hol, h0, h4, hw', hs]; rfl
              · first | (simp [aCts, aCos, hc, hlt, rowCt, hwrap, hol, h0, h4, hw', hs]; done) | (simp [aCts, aCos, hc, hlt, rowCt, hwrap, hol, h0, h4, hw', hs]; omega) | (simp [aCts, aCos, hc, hlt, rowCt, hwrap, hol, h0, h4, hw', hs, rowsOf]; omega) | skip
            refine regv_nil ?_
            refine Wp.seq ?_
            refine Wp.reg_seq (own := fun _ => false) tt_ok ?_
            iterate 4
              refine regv_pure (s1 := ?_) rfl rfl ?_ ?_ ?_
              rotate_left
              · simp [aCts, aCos, hc, hlt, rowCt, hwrap, hol, h0, h4, hw', hs]; rfl
              · first | (simp [aCts, aCos, hc, hlt, rowCt, hwrap, hol, h0, h4, hw', hs]; done) | (simp [aCts, aCos, hc, hlt, rowCt, hwrap, hol, h0, h4, hw', hs]; omega) | (simp [aCts, aCos, hc, hlt, rowCt, hwrap, hol, h0, h4, hw', hs, rowsOf]; omega) | skip
            first
              | (refine regv_pure (s1 := ?_) rfl ?_ ?_ ?_ ?_
                 rotate_left
                 · simp [aCts, aCos, hc, hlt, rowCt, hwrap, hol, h0, h4, hw', hs]; done
                 · simp [aCts, aCos, hc, hlt, rowCt, hwrap, hol, h0, h4, hw', hs]; rfl
                 · first | (simp [aCts, aCos, hc, hlt, rowCt, hwrap, hol, h0, h4, hw', hs]; done) | (simp [aCts, aCos, hc, hlt, rowCt, hwrap, hol, h0, h4, hw', hs]; omega) | (simp [aCts, aCos, hc, hlt, rowCt, hwrap, hol, h0, h4, hw', hs, rowsOf]; omega) | skip)
              | (refine regv_skip (s1 := ?_) ?_ ?_ ?_
                 rotate_left
                 · simp [aCts, aCos, hc, hlt, rowCt, hwrap, hol, h0, h4, hw', hs]; done
                 · simp [aCts, aCos, hc, hlt, rowCt, hwrap, hol, h0, h4, hw', hs]; rfl)
            first
              | (refine regv_pure (s1 := ?_) rfl ?_ ?_ ?_ ?_
                 rotate_left
                 · simp [aCts, aCos, hc, hlt, rowCt, hwrap, hol, h0, h4, hw', hs]; done
                 · simp [aCts, aCos, hc, hlt, rowCt, hwrap, hol, h0, h4, hw', hs]; rfl
                 · first | (simp [aCts, aCos, hc, hlt, rowCt, hwrap, hol, h0, h4, hw', hs]; done) | (simp [aCts, aCos, hc, hlt, rowCt, hwrap, hol, h0, h4, hw', hs]; omega) | (simp [aCts, aCos, hc, hlt, rowCt, hwrap, hol, h0, h4, hw', hs, rowsOf]; omega) | skip)
              | (refine regv_skip (s1 := ?_) ?_ ?_ ?_
                 rotate_left
                 · simp [aCts, aCos, hc, hlt, rowCt, hwrap, hol, h0, h4, hw', hs]; done
                 · simp [aCts, aCos, hc, hlt, rowCt, hwrap, hol, h0, h4, hw', hs]; rfl)
            first
              | (refine regv_pure (s1 := ?_) rfl ?_ ?_ ?_ ?_
                 rotate_left
                 · simp [aCts, aCos, hc, hlt, rowCt, hwrap, hol, h0, h4, hw', hs]; done
                 · simp [aCts, aCos, hc, hlt, rowCt, hwrap, hol, h0, h4, hw', hs]; rfl
                 · first | (simp [aCts, aCos, hc, hlt, rowCt, hwrap, hol, h0, h4, hw', hs]; done) | (simp [aCts, aCos, hc, hlt, rowCt, hwrap, hol, h0, h4, hw', hs]; omega) | (simp [aCts, aCos, hc, hlt, rowCt, hwrap, hol, h0, h4, hw', hs, rowsOf]; omega) | skip)
              | (refine regv_skip (s1 := ?_) ?_ ?_ ?_
                 rotate_left
                 · simp [aCts, aCos, hc, hlt, rowCt, hwrap, hol, h0, h4, hw', hs]; done
                 · simp [aCts, aCos, hc, hlt, rowCt, hwrap, hol, h0, h4, hw', hs]; rfl)
            iterate 1
              refine regv_pure (s1 := ?_) rfl rfl ?_ ?_ ?_
              rotate_left
              · simp [aCts, aCos, hc, hlt, rowCt, hwrap, hol, h0, h4, hw', hs]; rfl
              · first | (simp [aCts, aCos, hc, hlt, rowCt, hwrap, hol, h0, h4, hw', hs]; done) | (simp [aCts, aCos, hc, hlt, rowCt, hwrap, hol, h0, h4, hw', hs]; omega) | (simp [aCts, aCos, hc, hlt, rowCt, hwrap, hol, h0, h4, hw', hs, rowsOf]; omega) | skip
            refine regv_nil ?_
            refine Wp.cond false rfl (fun h => by cases h) (fun _ => ?_)
            refine Wp.skip ?_
            show Wp _ _ _ _
            refine Wp.reg_seq (own := fun _ => false) tt_ok ?_
            iterate 4
              refine regv_pure (s1 := ?_) rfl rfl ?_ ?_ ?_
              rotate_left
              · simp [aCts, aCos, hc, hlt, rowCt, hwrap, hol, h0, h4, hw', hs]; rfl
              · first | (simp [aCts, aCos, hc, hlt, rowCt, hwrap, hol, h0, h4, hw', hs]; done) | (simp [aCts, aCos, hc, hlt, rowCt, hwrap, hol, h0, h4, hw', hs]; omega) | (simp [aCts, aCos, hc, hlt, rowCt, hwrap, hol, h0, h4, hw', hs, rowsOf]; omega) | skip
            refine regv_call (s' := ?_) (hrd) rfl rfl rfl rfl rfl ?_ ?_ ?_ ?_
            rotate_left 1
            · first | (simp [aCts, aCos, hc, hlt, rowCt, hwrap, hol, h0, h4, hw', hs]; done) | (simp [aCts, aCos, hc, hlt, rowCt, hwrap, hol, h0, h4, hw', hs]; omega) | (simp [aCts, aCos, hc, hlt, rowCt, hwrap, hol, h0, h4, hw', hs, rowsOf]; omega) | skip
            · simp
            · simp [aCts, aCos, hc, hlt, rowCt, hwrap, hol, h0, h4, hw', hs]; rfl
            iterate 5
              refine regv_pure (s1 := ?_) rfl rfl ?_ ?_ ?_
              rotate_left
              · simp [aCts, aCos, hc, hlt, rowCt, hwrap, hol, h0, h4, hw', hs]; rfl
              · first | (simp [aCts, aCos, hc, hlt, rowCt, hwrap, hol, h0, h4, hw', hs]; done) | (simp [aCts, aCos, hc, hlt, rowCt, hwrap, hol, h0, h4, hw', hs]; omega) | (simp [aCts, aCos, hc, hlt, rowCt, hwrap, hol, h0, h4, hw', hs, rowsOf]; omega) | skip
            refine regv_nil ?_
            refine Wp.seq ?_
            refine Wp.reg_seq (own := fun _ => false) tt_ok ?_
            iterate 2
              refine regv_pure (s1 := ?_) rfl rfl ?_ ?_ ?_
              rotate_left
              · simp [aCts, aCos, hc, hlt, rowCt, hwrap, hol, h0, h4, hw', hs]; rfl
              · first | (simp [aCts, aCos, hc, hlt, rowCt, hwrap, hol, h0, h4, hw', hs]; done) | (simp [aCts, aCos, hc, hlt, rowCt, hwrap, hol, h0, h4, hw', hs]; omega) | (simp [aCts, aCos, hc, hlt, rowCt, hwrap, hol, h0, h4, hw', hs, rowsOf]; omega) | skip
            refine regv_nil ?_
            refine Wp.cond false rfl (fun h => by cases h) (fun _ => ?_)
            refine Wp.skip ?_
            show Wp _ _ _ _
            refine Wp.reg_seq (own := fun _ => false) tt_ok ?_
            iterate 1
              refine regv_pure (s1 := ?_) rfl rfl ?_ ?_ ?_
              rotate_left
              · simp [aCts, aCos, hc, hlt, rowCt, hwrap, hol, h0, h4, hw', hs]; rfl
              · first | (simp [aCts, aCos, hc, hlt, rowCt, hwrap, hol, h0, h4, hw', hs]; done) | (simp [aCts, aCos, hc, hlt, rowCt, hwrap, hol, h0, h4, hw', hs]; omega) | (simp [aCts, aCos, hc, hlt, rowCt, hwrap, hol, h0, h4, hw', hs, rowsOf]; omega) | skip
            refine regv_nil ?_
            refine Wp.seq ?_
            refine Wp.reg_seq (own := fun _ => false) tt_ok ?_
            iterate 1
              refine regv_pure (s1 := ?_) rfl rfl ?_ ?_ ?_
              rotate_left
              · simp [aCts, aCos, hc, hlt, rowCt, hwrap, hol, h0, h4, hw', hs]; rfl
              · first | (simp [aCts, aCos, hc, hlt, rowCt, hwrap, hol, h0, h4, hw', hs]; done) | (simp [aCts, aCos, hc, hlt, rowCt, hwrap, hol, h0, h4, hw', hs]; omega) | (simp [aCts, aCos, hc, hlt, rowCt, hwrap, hol, h0, h4, hw', hs, rowsOf]; omega) | skip
            refine regv_call (s' := ?_) (hsee) rfl rfl rfl rfl rfl ?_ ?_ ?_ ?_
            rotate_left 1
            · first | (simp [aCts, aCos, hc, hlt, rowCt, hwrap, hol, h0, h4, hw', hs]; done) | (simp [aCts, aCos, hc, hlt, rowCt, hwrap, hol, h0, h4, hw', hs]; omega) | (simp [aCts, aCos, hc, hlt, rowCt, hwrap, hol, h0, h4, hw', hs, rowsOf]; omega) | skip
            · simp
            · simp [aCts, aCos, hc, hlt, rowCt, hwrap, hol, h0, h4, hw', hs]; rfl
            refine regv_nil ?_
            refine Wp.cond true rfl (fun _ => ?_) (fun h => by cases h)
            refine Wp.seq ?_
            refine Wp.reg_seq (own := fun _ => false) tt_ok ?_
            iterate 3
              refine regv_pure (s1 := ?_) rfl rfl ?_ ?_ ?_
              rotate_left
              · simp [aCts, aCos, hc, hlt, rowCt, hwrap, hol, h0, h4, hw', hs]; rfl
              · first | (simp [aCts, aCos, hc, hlt, rowCt, hwrap, hol, h0, h4, hw', hs]; done) | (simp [aCts, aCos, hc, hlt, rowCt, hwrap, hol, h0, h4, hw', hs]; omega) | (simp [aCts, aCos, hc, hlt, rowCt, hwrap, hol, h0, h4, hw', hs, rowsOf]; omega) | skip
            first
              | (refine regv_pure (s1 := ?_) rfl ?_ ?_ ?_ ?_
                 rotate_left
                 · simp [aCts, aCos, hc, hlt, rowCt, hwrap, hol, h0, h4, hw', hs]; done
                 · simp [aCts, aCos, hc, hlt, rowCt, hwrap, hol, h0, h4, hw', hs]; rfl
                 · first | (simp [aCts, aCos, hc, hlt, rowCt, hwrap, hol, h0, h4, hw', hs]; done) | (simp [aCts, aCos, hc, hlt, rowCt, hwrap, hol, h0, h4, hw', hs]; omega) | (simp [aCts, aCos, hc, hlt, rowCt, hwrap, hol, h0, h4, hw', hs, rowsOf]; omega) | skip)
              | (refine regv_skip (s1 := ?_) ?_ ?_ ?_
                 rotate_left
                 · simp [aCts, aCos, hc, hlt, rowCt, hwrap, hol, h0, h4, hw', hs]; done
                 · simp [aCts, aCos, hc, hlt, rowCt, hwrap, hol, h0, h4, hw', hs]; rfl)
            first
              | (refine regv_pure (s1 := ?_) rfl ?_ ?_ ?_ ?_
                 rotate_left
                 · simp [aCts, aCos, hc, hlt, rowCt, hwrap, hol, h0, h4, hw', hs]; done
                 · simp [aCts, aCos, hc, hlt, rowCt, hwrap, hol, h0, h4, hw', hs]; rfl
                 · first | (simp [aCts, aCos, hc, hlt, rowCt, hwrap, hol, h0, h4, hw', hs]; done) | (simp [aCts, aCos, hc, hlt, rowCt, hwrap, hol, h0, h4, hw', hs]; omega) | (simp [aCts, aCos, hc, hlt, rowCt, hwrap, hol, h0, h4, hw', hs, rowsOf]; omega) | skip)
              | (refine regv_skip (s1 := ?_) ?_ ?_ ?_
                 rotate_left
                 · simp [aCts, aCos, hc, hlt, rowCt, hwrap, hol, h0, h4, hw', hs]; done
                 · simp [aCts, aCos, hc, hlt, rowCt, hwrap, hol, h0, h4, hw', hs]; rfl)
            first
              | (refine regv_pure (s1 := ?_) rfl ?_ ?_ ?_ ?_
                 rotate_left
                 · simp [aCts, aCos, hc, hlt, rowCt, hwrap, hol, h0, h4, hw', hs]; done
                 · simp [aCts, aCos, hc, hlt, rowCt, hwrap, hol, h0, h4, hw', hs]; rfl
                 · first | (simp [aCts, aCos, hc, hlt, rowCt, hwrap, hol, h0, h4, hw', hs]; done) | (simp [aCts, aCos, hc, hlt, rowCt, hwrap, hol, h0, h4, hw', hs]; omega) | (simp [aCts, aCos, hc, hlt, rowCt, hwrap, hol, h0, h4, hw', hs, rowsOf]; omega) | skip)
              | (refine regv_skip (s1 := ?_) ?_ ?_ ?_
                 rotate_left
                 · simp [aCts, aCos, hc, hlt, rowCt, hwrap, hol, h0, h4, hw', hs]; done
                 · simp [aCts, aCos, hc, hlt, rowCt, hwrap, hol, h0, h4, hw', hs]; rfl)
            first
              | (refine regv_pure (s1 := ?_) rfl ?_ ?_ ?_ ?_
                 rotate_left
                 · simp [aCts, aCos, hc, hlt, rowCt, hwrap, hol, h0, h4, hw', hs]; done
                 · simp [aCts, aCos, hc, hlt, rowCt, hwrap, hol, h0, h4, hw', hs]; rfl
                 · first | (simp [aCts, aCos, hc, hlt, rowCt, hwrap, hol, h0, h4, hw', hs]; done) | (simp [aCts, aCos, hc, hlt, rowCt, hwrap, hol, h0, h4, hw', hs]; omega) | (simp [aCts, aCos, hc, hlt, rowCt, hwrap, hol, h0, h4, hw', hs, rowsOf]; omega) | skip)
              | (refine regv_skip (s1 := ?_) ?_ ?_ ?_
                 rotate_left
                 · simp [aCts, aCos, hc, hlt, rowCt, hwrap, hol, h0, h4, hw', hs]; done
                 · simp [aCts, aCos, hc, hlt, rowCt, hwrap, hol, h0, h4, hw', hs]; rfl)
            first
              | (refine regv_pure (s1 := ?_) rfl ?_ ?_ ?_ ?_
                 rotate_left
                 · simp [aCts, aCos, hc, hlt, rowCt, hwrap, hol, h0, h4, hw', hs]; done
                 · simp [aCts, aCos, hc, hlt, rowCt, hwrap, hol, h0, h4, hw', hs]; rfl
                 · first | (simp [aCts, aCos, hc, hlt, rowCt, hwrap, hol, h0, h4, hw', hs]; done) | (simp [aCts, aCos, hc, hlt, rowCt, hwrap, hol, h0, h4, hw', hs]; omega) | (simp [aCts, aCos, hc, hlt, rowCt, hwrap, hol, h0, h4, hw', hs, rowsOf]; omega) | skip)
              | (refine regv_skip (s1 := ?_) ?_ ?_ ?_
                 rotate_left
                 · simp [aCts, aCos, hc, hlt, rowCt, hwrap, hol, h0, h4, hw', hs]; done
                 · simp [aCts, aCos, hc, hlt, rowCt, hwrap, hol, h0, h4, hw', hs]; rfl)
            iterate 1
              refine regv_pure (s1 := ?_) rfl rfl ?_ ?_ ?_
              rotate_left
              · simp [aCts, aCos, hc, hlt, rowCt, hwrap, hol, h0, h4, hw', hs]; rfl
              · first | (simp [aCts, aCos, hc, hlt, rowCt, hwrap, hol, h0, h4, hw', hs]; done) | (simp [aCts, aCos, hc, hlt, rowCt, hwrap, hol, h0, h4, hw', hs]; omega) | (simp [aCts, aCos, hc, hlt, rowCt, hwrap, hol, h0, h4, hw', hs, rowsOf]; omega) | skip
            refine regv_nil ?_
            refine Wp.cond true rfl (fun _ => ?_) (fun h => by cases h)
            refine Wp.reg_seq (own := fun _ => false) tt_ok ?_
            iterate 4
              refine regv_pure (s1 := ?_) rfl rfl ?_ ?_ ?_
              rotate_left
              · simp [aCts, aCos, hc, hlt, rowCt, hwrap, hol, h0, h4, hw', hs]; rfl
              · first | (simp [aCts, aCos, hc, hlt, rowCt, hwrap, hol, h0, h4, hw', hs]; done) | (simp [aCts, aCos, hc, hlt, rowCt, hwrap, hol, h0, h4, hw', hs]; omega) | (simp [aCts, aCos, hc, hlt, rowCt, hwrap, hol, h0, h4, hw', hs, rowsOf]; omega) | skip
            refine regv_nil ?_
            refine Wp.ret (endQ_ret0 rfl ?_)
            rw [hspec, if_neg (by decide)]; exact .tups (.cons (.nil _) (.cons (.aggs (.cons (.nil _) (.cons (.nil _) (.cons (.nil _) .nil)))) (.cons (.refl _ rfl) .nil)))
          ·
            rw [if_pos (.inr hs)] at hspec
            have hs0 : ¬ slot < 0 := by omega
            have hs1 : (e0.length : Int) ≤ slot := by omega
            refine Wp.reg_seq (own := fun _ => false) tt_ok ?_
            iterate 1
              refine regv_pure (s1 := ?_) rfl rfl ?_ ?_ ?_
              rotate_left
              · simp [aCts, aCos, hc, hlt, rowCt, hwrap, hol, h0, h4, hw', hs0, hs1]; rfl
              · first | (simp [aCts, aCos, hc, hlt, rowCt, hwrap, hol, h0, h4, hw', hs0, hs1]; done) | (simp [aCts, aCos, hc, hlt, rowCt, hwrap, hol, h0, h4, hw', hs0, hs1]; omega) | (simp [aCts, aCos, hc, hlt, rowCt, hwrap, hol, h0, h4, hw', hs0, hs1, rowsOf]; omega) | skip
            refine regv_nil ?_
            refine Wp.seq ?_
            refine Wp.cond true rfl (fun _ => ?_) (fun h => by cases h)
            refine Wp.skip ?_
            show Wp _ _ _ _
            refine Wp.seq ?_
            refine Wp.block ?_
            refine Wp.reg_seq (own := fun _ => false) tt_ok ?_
            iterate 6
              refine regv_pure (s1 := ?_) rfl rfl ?_ ?_ ?_
              rotate_left
              · simp [aCts, aCos, hc, hlt, rowCt, hwrap, hol, h0, h4, hw', hs0, hs1]; rfl
              · first | (simp [aCts, aCos, hc, hlt, rowCt, hwrap, hol, h0, h4, hw', hs0, hs1]; done) | (simp [aCts, aCos, hc, hlt, rowCt, hwrap, hol, h0, h4, hw', hs0, hs1]; omega) | (simp [aCts, aCos, hc, hlt, rowCt, hwrap, hol, h0, h4, hw', hs0, hs1, rowsOf]; omega) | skip
            refine regv_nil ?_
            refine Wp.seq ?_
            refine Wp.reg_seq (own := fun _ => false) tt_ok ?_
            iterate 4
              refine regv_pure (s1 := ?_) rfl rfl ?_ ?_ ?_
              rotate_left
              · simp [aCts, aCos, hc, hlt, rowCt, hwrap, hol, h0, h4, hw', hs0, hs1]; rfl
              · first | (simp [aCts, aCos, hc, hlt, rowCt, hwrap, hol, h0, h4, hw', hs0, hs1]; done) | (simp [aCts, aCos, hc, hlt, rowCt, hwrap, hol, h0, h4, hw', hs0, hs1]; omega) | (simp [aCts, aCos, hc, hlt, rowCt, hwrap, hol, h0, h4, hw', hs0, hs1, rowsOf]; omega) | skip
            first
              | (refine regv_pure (s1 := ?_) rfl ?_ ?_ ?_ ?_
                 rotate_left
                 · simp [aCts, aCos, hc, hlt, rowCt, hwrap, hol, h0, h4, hw', hs0, hs1]; done
                 · simp [aCts, aCos, hc, hlt, rowCt, hwrap, hol, h0, h4, hw', hs0, hs1]; rfl
                 · first | (simp [aCts, aCos, hc, hlt, rowCt, hwrap, hol, h0, h4, hw', hs0, hs1]; done) | (simp [aCts, aCos, hc, hlt, rowCt, hwrap, hol, h0, h4, hw', hs0, hs1]; omega) | (simp [aCts, aCos, hc, hlt, rowCt, hwrap, hol, h0, h4, hw', hs0, hs1, rowsOf]; omega) | skip)
              | (refine regv_skip (s1 := ?_) ?_ ?_ ?_
                 rotate_left
                 · simp [aCts, aCos, hc, hlt, rowCt, hwrap, hol, h0, h4, hw', hs0, hs1]; done
                 · simp [aCts, aCos, hc, hlt, rowCt, hwrap, hol, h0, h4, hw', hs0, hs1]; rfl)
            first
              | (refine regv_pure (s1 := ?_) rfl ?_ ?_ ?_ ?_
                 rotate_left
                 · simp [aCts, aCos, hc, hlt, rowCt, hwrap, hol, h0, h4, hw', hs0, hs1]; done
                 · simp [aCts, aCos, hc, hlt, rowCt, hwrap, hol, h0, h4, hw', hs0, hs1]; rfl
                 · first | (simp [aCts, aCos, hc, hlt, rowCt, hwrap, hol, h0, h4, hw', hs0, hs1]; done) | (simp [aCts, aCos, hc, hlt, rowCt, hwrap, hol, h0, h4, hw', hs0, hs1]; omega) | (simp [aCts, aCos, hc, hlt, rowCt, hwrap, hol, h0, h4, hw', hs0, hs1, rowsOf]; omega) | skip)
              | (refine regv_skip (s1 := ?_) ?_ ?_ ?_
                 rotate_left
                 · simp [aCts, aCos, hc, hlt, rowCt, hwrap, hol, h0, h4, hw', hs0, hs1]; done
                 · simp [aCts, aCos, hc, hlt, rowCt, hwrap, hol, h0, h4, hw', hs0, hs1]; rfl)
            first
              | (refine regv_pure (s1 := ?_) rfl ?_ ?_ ?_ ?_
                 rotate_left
                 · simp [aCts, aCos, hc, hlt, rowCt, hwrap, hol, h0, h4, hw', hs0, hs1]; done
                 · simp [aCts, aCos, hc, hlt, rowCt, hwrap, hol, h0, h4, hw', hs0, hs1]; rfl
                 · first | (simp [aCts, aCos, hc, hlt, rowCt, hwrap, hol, h0, h4, hw', hs0, hs1]; done) | (simp [aCts, aCos, hc, hlt, rowCt, hwrap, hol, h0, h4, hw', hs0, hs1]; omega) | (simp [aCts, aCos, hc, hlt, rowCt, hwrap, hol, h0, h4, hw', hs0, hs1, rowsOf]; omega) | skip)
              | (refine regv_skip (s1 := ?_) ?_ ?_ ?_
                 rotate_left
                 · simp [aCts, aCos, hc, hlt, rowCt, hwrap, hol, h0, h4, hw', hs0, hs1]; done
                 · simp [aCts, aCos, hc, hlt, rowCt, hwrap, hol, h0, h4, hw', hs0, hs1]; rfl)
            iterate 1
              refine regv_pure (s1 := ?_) rfl rfl ?_ ?_ ?_
              rotate_left
              · simp [aCts, aCos, hc, hlt, rowCt, hwrap, hol, h0, h4, hw', hs0, hs1]; rfl
              · first | (simp [aCts, aCos, hc, hlt, rowCt, hwrap, hol, h0, h4, hw', hs0, hs1]; done) | (simp [aCts, aCos, hc, hlt, rowCt, hwrap, hol, h0, h4, hw', hs0, hs1]; omega) | (simp [aCts, aCos, hc, hlt, rowCt, hwrap, hol, h0, h4, hw', hs0, hs1, rowsOf]; omega) | skip
            refine regv_nil ?_
            refine Wp.cond false rfl (fun h => by cases h) (fun _ => ?_)
            refine Wp.skip ?_
            show Wp _ _ _ _
            refine Wp.reg_seq (own := fun _ => false) tt_ok ?_
            iterate 4
              refine regv_pure (s1 := ?_) rfl rfl ?_ ?_ ?_
              rotate_left
              · simp [aCts, aCos, hc, hlt, rowCt, hwrap, hol, h0, h4, hw', hs0, hs1]; rfl
              · first | (simp [aCts, aCos, hc, hlt, rowCt, hwrap, hol, h0, h4, hw', hs0, hs1]; done) | (simp [aCts, aCos, hc, hlt, rowCt, hwrap, hol, h0, h4, hw', hs0, hs1]; omega) | (simp [aCts, aCos, hc, hlt, rowCt, hwrap, hol, h0, h4, hw', hs0, hs1, rowsOf]; omega) | skip
            refine regv_call (s' := ?_) (hrd) rfl rfl rfl rfl rfl ?_ ?_ ?_ ?_
            rotate_left 1
            · first | (simp [aCts, aCos, hc, hlt, rowCt, hwrap, hol, h0, h4, hw', hs0, hs1]; done) | (simp [aCts, aCos, hc, hlt, rowCt, hwrap, hol, h0, h4, hw', hs0, hs1]; omega) | (simp [aCts, aCos, hc, hlt, rowCt, hwrap, hol, h0, h4, hw', hs0, hs1, rowsOf]; omega) | skip
            · simp
            · simp [aCts, aCos, hc, hlt, rowCt, hwrap, hol, h0, h4, hw', hs0, hs1]; rfl
            iterate 5
              refine regv_pure (s1 := ?_) rfl rfl ?_ ?_ ?_
              rotate_left
              · simp [aCts, aCos, hc, hlt, rowCt, hwrap, hol, h0, h4, hw', hs0, hs1]; rfl
              · first | (simp [aCts, aCos, hc, hlt, rowCt, hwrap, hol, h0, h4, hw', hs0, hs1]; done) | (simp [aCts, aCos, hc, hlt, rowCt, hwrap, hol, h0, h4, hw', hs0, hs1]; omega) | (simp [aCts, aCos, hc, hlt, rowCt, hwrap, hol, h0, h4, hw', hs0, hs1, rowsOf]; omega) | skip
            refine regv_nil ?_
            refine Wp.seq ?_
            refine Wp.reg_seq (own := fun _ => false) tt_ok ?_
            iterate 2
              refine regv_pure (s1 := ?_) rfl rfl ?_ ?_ ?_
              rotate_left
              · simp [aCts, aCos, hc, hlt, rowCt, hwrap, hol, h0, h4, hw', hs0, hs1]; rfl
              · first | (simp [aCts, aCos, hc, hlt, rowCt, hwrap, hol, h0, h4, hw', hs0, hs1]; done) | (simp [aCts, aCos, hc, hlt, rowCt, hwrap, hol, h0, h4, hw', hs0, hs1]; omega) | (simp [aCts, aCos, hc, hlt, rowCt, hwrap, hol, h0, h4, hw', hs0, hs1, rowsOf]; omega) | skip
            refine regv_nil ?_
            refine Wp.cond false rfl (fun h => by cases h) (fun _ => ?_)
            refine Wp.skip ?_
            show Wp _ _ _ _
            refine Wp.reg_seq (own := fun _ => false) tt_ok ?_
            iterate 1
              refine regv_pure (s1 := ?_) rfl rfl ?_ ?_ ?_
              rotate_left
              · simp [aCts, aCos, hc, hlt, rowCt, hwrap, hol, h0, h4, hw', hs0, hs1]; rfl
              · first | (simp [aCts, aCos, hc, hlt, rowCt, hwrap, hol, h0, h4, hw', hs0, hs1]; done) | (simp [aCts, aCos, hc, hlt, rowCt, hwrap, hol, h0, h4, hw', hs0, hs1]; omega) | (simp [aCts, aCos, hc, hlt, rowCt, hwrap, hol, h0, h4, hw', hs0, hs1, rowsOf]; omega) | skip
            refine regv_nil ?_
            refine Wp.seq ?_
            refine Wp.reg_seq (own := fun _ => false) tt_ok ?_
            iterate 1
              refine regv_pure (s1 := ?_) rfl rfl ?_ ?_ ?_
              rotate_left
              · simp [aCts, aCos, hc, hlt, rowCt, hwrap, hol, h0, h4, hw', hs0, hs1]; rfl
              · first | (simp [aCts, aCos, hc, hlt, rowCt, hwrap, hol, h0, h4, hw', hs0, hs1]; done) | (simp [aCts, aCos, hc, hlt, rowCt, hwrap, hol, h0, h4, hw', hs0, hs1]; omega) | (simp [aCts, aCos, hc, hlt, rowCt, hwrap, hol, h0, h4, hw', hs0, hs1, rowsOf]; omega) | skip
            refine regv_call (s' := ?_) (hsee) rfl rfl rfl rfl rfl ?_ ?_ ?_ ?_
            rotate_left 1
            · first | (simp [aCts, aCos, hc, hlt, rowCt, hwrap, hol, h0, h4, hw', hs0, hs1]; done) | (simp [aCts, aCos, hc, hlt, rowCt, hwrap, hol, h0, h4, hw', hs0, hs1]; omega) | (simp [aCts, aCos, hc, hlt, rowCt, hwrap, hol, h0, h4, hw', hs0, hs1, rowsOf]; omega) | skip
            · simp
            · simp [aCts, aCos, hc, hlt, rowCt, hwrap, hol, h0, h4, hw', hs0, hs1]; rfl
            refine regv_nil ?_
            refine Wp.cond true rfl (fun _ => ?_) (fun h => by cases h)
            refine Wp.seq ?_
            refine Wp.reg_seq (own := fun _ => false) tt_ok ?_
            iterate 3
              refine regv_pure (s1 := ?_) rfl rfl ?_ ?_ ?_
              rotate_left
              · simp [aCts, aCos, hc, hlt, rowCt, hwrap, hol, h0, h4, hw', hs0, hs1]; rfl
              · first | (simp [aCts, aCos, hc, hlt, rowCt, hwrap, hol, h0, h4, hw', hs0, hs1]; done) | (simp [aCts, aCos, hc, hlt, rowCt, hwrap, hol, h0, h4, hw', hs0, hs1]; omega) | (simp [aCts, aCos, hc, hlt, rowCt, hwrap, hol, h0, h4, hw', hs0, hs1, rowsOf]; omega) | skip
            first
              | (refine regv_pure (s1 := ?_) rfl ?_ ?_ ?_ ?_
                 rotate_left
                 · simp [aCts, aCos, hc, hlt, rowCt, hwrap, hol, h0, h4, hw', hs0, hs1]; done
                 · simp [aCts, aCos, hc, hlt, rowCt, hwrap, hol, h0, h4, hw', hs0, hs1]; rfl
                 · first | (simp [aCts, aCos, hc, hlt, rowCt, hwrap, hol, h0, h4, hw', hs0, hs1]; done) | (simp [aCts, aCos, hc, hlt, rowCt, hwrap, hol, h0, h4, hw', hs0, hs1]; omega) | (simp [aCts, aCos, hc, hlt, rowCt, hwrap, hol, h0, h4, hw', hs0, hs1, rowsOf]; omega) | skip)
              | (refine regv_skip (s1 := ?_) ?_ ?_ ?_
                 rotate_left
                 · simp [aCts, aCos, hc, hlt, rowCt, hwrap, hol, h0, h4, hw', hs0, hs1]; done
                 · simp [aCts, aCos, hc, hlt, rowCt, hwrap, hol, h0, h4, hw', hs0, hs1]; rfl)
            first
              | (refine regv_pure (s1 := ?_) rfl ?_ ?_ ?_ ?_
                 rotate_left
                 · simp [aCts, aCos, hc, hlt, rowCt, hwrap, hol, h0, h4, hw', hs0, hs1]; done
                 · simp [aCts, aCos, hc, hlt, rowCt, hwrap, hol, h0, h4, hw', hs0, hs1]; rfl
                 · first | (simp [aCts, aCos, hc, hlt, rowCt, hwrap, hol, h0, h4, hw', hs0, hs1]; done) | (simp [aCts, aCos, hc, hlt, rowCt, hwrap, hol, h0, h4, hw', hs0, hs1]; omega) | (simp [aCts, aCos, hc, hlt, rowCt, hwrap, hol, h0, h4, hw', hs0, hs1, rowsOf]; omega) | skip)
              | (refine regv_skip (s1 := ?_) ?_ ?_ ?_
                 rotate_left
                 · simp [aCts, aCos, hc, hlt, rowCt, hwrap, hol, h0, h4, hw', hs0, hs1]; done
                 · simp [aCts, aCos, hc, hlt, rowCt, hwrap, hol, h0, h4, hw', hs0, hs1]; rfl)
            first
              | (refine regv_pure (s1 := ?_) rfl ?_ ?_ ?_ ?_
                 rotate_left
                 · simp [aCts, aCos, hc, hlt, rowCt, hwrap, hol, h0, h4, hw', hs0, hs1]; done
                 · simp [aCts, aCos, hc, hlt, rowCt, hwrap, hol, h0, h4, hw', hs0, hs1]; rfl
                 · first | (simp [aCts, aCos, hc, hlt, rowCt, hwrap, hol, h0, h4, hw', hs0, hs1]; done) | (simp [aCts, aCos, hc, hlt, rowCt, hwrap, hol, h0, h4, hw', hs0, hs1]; omega) | (simp [aCts, aCos, hc, hlt, rowCt, hwrap, hol, h0, h4, hw', hs0, hs1, rowsOf]; omega) | skip)
              | (refine regv_skip (s1 := ?_) ?_ ?_ ?_
                 rotate_left
                 · simp [aCts, aCos, hc, hlt, rowCt, hwrap, hol, h0, h4, hw', hs0, hs1]; done
                 · simp [aCts, aCos, hc, hlt, rowCt, hwrap, hol, h0, h4, hw', hs0, hs1]; rfl)
            first
              | (refine regv_pure (s1 := ?_) rfl ?_ ?_ ?_ ?_
                 rotate_left
                 · simp [aCts, aCos, hc, hlt, rowCt, hwrap, hol, h0, h4, hw', hs0, hs1]; done
                 · simp [aCts, aCos, hc, hlt, rowCt, hwrap, hol, h0, h4, hw', hs0, hs1]; rfl
                 · first | (simp [aCts, aCos, hc, hlt, rowCt, hwrap, hol, h0, h4, hw', hs0, hs1]; done) | (simp [aCts, aCos, hc, hlt, rowCt, hwrap, hol, h0, h4, hw', hs0, hs1]; omega) | (simp [aCts, aCos, hc, hlt, rowCt, hwrap, hol, h0, h4, hw', hs0, hs1, rowsOf]; omega) | skip)
              | (refine regv_skip (s1 := ?_) ?_ ?_ ?_
                 rotate_left
                 · simp [aCts, aCos, hc, hlt, rowCt, hwrap, hol, h0, h4, hw', hs0, hs1]; done
                 · simp [aCts, aCos, hc, hlt, rowCt, hwrap, hol, h0, h4, hw', hs0, hs1]; rfl)
            first
              | (refine regv_pure (s1 := ?_) rfl ?_ ?_ ?_ ?_
                 rotate_left
                 · simp [aCts, aCos, hc, hlt, rowCt, hwrap, hol, h0, h4, hw', hs0, hs1]; done
                 · simp [aCts, aCos, hc, hlt, rowCt, hwrap, hol, h0, h4, hw', hs0, hs1]; rfl
                 · first | (simp [aCts, aCos, hc, hlt, rowCt, hwrap, hol, h0, h4, hw', hs0, hs1]; done) | (simp [aCts, aCos, hc, hlt, rowCt, hwrap, hol, h0, h4, hw', hs0, hs1]; omega) | (simp [aCts, aCos, hc, hlt, rowCt, hwrap, hol, h0, h4, hw', hs0, hs1, rowsOf]; omega) | skip)
              | (refine regv_skip (s1 := ?_) ?_ ?_ ?_
                 rotate_left
                 · simp [aCts, aCos, hc, hlt, rowCt, hwrap, hol, h0, h4, hw', hs0, hs1]; done
                 · simp [aCts, aCos, hc, hlt, rowCt, hwrap, hol, h0, h4, hw', hs0, hs1]; rfl)
            iterate 1
              refine regv_pure (s1 := ?_) rfl rfl ?_ ?_ ?_
              rotate_left
              · simp [aCts, aCos, hc, hlt, rowCt, hwrap, hol, h0, h4, hw', hs0, hs1]; rfl
              · first | (simp [aCts, aCos, hc, hlt, rowCt, hwrap, hol, h0, h4, hw', hs0, hs1]; done) | (simp [aCts, aCos, hc, hlt, rowCt, hwrap, hol, h0, h4, hw', hs0, hs1]; omega) | (simp [aCts, aCos, hc, hlt, rowCt, hwrap, hol, h0, h4, hw', hs0, hs1, rowsOf]; omega) | skip
            refine regv_nil ?_
            refine Wp.cond true rfl (fun _ => ?_) (fun h => by cases h)
            refine Wp.reg_seq (own := fun _ => false) tt_ok ?_
            iterate 4
              refine regv_pure (s1 := ?_) rfl rfl ?_ ?_ ?_
              rotate_left
              · simp [aCts, aCos, hc, hlt, rowCt, hwrap, hol, h0, h4, hw', hs0, hs1]; rfl
              · first | (simp [aCts, aCos, hc, hlt, rowCt, hwrap, hol, h0, h4, hw', hs0, hs1]; done) | (simp [aCts, aCos, hc, hlt, rowCt, hwrap, hol, h0, h4, hw', hs0, hs1]; omega) | (simp [aCts, aCos, hc, hlt, rowCt, hwrap, hol, h0, h4, hw', hs0, hs1, rowsOf]; omega) | skip
            refine regv_nil ?_
            refine Wp.ret (endQ_ret0 rfl ?_)
            rw [hspec, if_neg (by decide)]; exact .tups (.cons (.nil _) (.cons (.aggs (.cons (.nil _) (.cons (.nil _) (.cons (.nil _) .nil)))) (.cons (.refl _ rfl) .nil)))
          ·
            rw [if_neg (by omega)] at hspec
            have hs0 : ¬ slot < 0 := by omega
            have hs1 : ¬ (e0.length : Int) ≤ slot := by omega
            have hs2 : slot < (e0.length : Int) := by omega
            have hs3 := hs.1
            have hs4 : slot.toNat < e0.length := by omega
            have hcn := conducting_con c.kind (readS ins q m c.sp c.n).1 (e.getD slot.toNat false) hk.1 hk.2
            have hwr2 : IntKind.i64.wrap (slot + 1) = slot + 1 := by rw [IntKind.wrap_i64]; omega
            refine Wp.reg_seq (own := fun _ => false) tt_ok ?_
            iterate 1
              refine regv_pure (s1 := ?_) rfl rfl ?_ ?_ ?_
              rotate_left
              · simp [aCts, aCos, hc, hlt, rowCt, hwrap, hol, h0, h4, hw', hs0, hs1, hs2, hs3, hs4, hwr2]; rfl
              · first | (simp [aCts, aCos, hc, hlt, rowCt, hwrap, hol, h0, h4, hw', hs0, hs1, hs2, hs3, hs4, hwr2]; done) | (simp [aCts, aCos, hc, hlt, rowCt, hwrap, hol, h0, h4, hw', hs0, hs1, hs2, hs3, hs4, hwr2]; omega) | (simp [aCts, aCos, hc, hlt, rowCt, hwrap, hol, h0, h4, hw', hs0, hs1, hs2, hs3, hs4, hwr2, rowsOf]; omega) | skip
            refine regv_nil ?_
            refine Wp.seq ?_
            refine Wp.cond true rfl (fun _ => ?_) (fun h => by cases h)
            refine Wp.skip ?_
            show Wp _ _ _ _
            refine Wp.seq ?_
            refine Wp.block ?_
            refine Wp.reg_seq (own := fun _ => false) tt_ok ?_
            iterate 6
              refine regv_pure (s1 := ?_) rfl rfl ?_ ?_ ?_
              rotate_left
              · simp [aCts, aCos, hc, hlt, rowCt, hwrap, hol, h0, h4, hw', hs0, hs1, hs2, hs3, hs4, hwr2]; rfl
              · first | (simp [aCts, aCos, hc, hlt, rowCt, hwrap, hol, h0, h4, hw', hs0, hs1, hs2, hs3, hs4, hwr2]; done) | (simp [aCts, aCos, hc, hlt, rowCt, hwrap, hol, h0, h4, hw', hs0, hs1, hs2, hs3, hs4, hwr2]; omega) | (simp [aCts, aCos, hc, hlt, rowCt, hwrap, hol, h0, h4, hw', hs0, hs1, hs2, hs3, hs4, hwr2, rowsOf]; omega) | skip
            refine regv_nil ?_
            refine Wp.seq ?_
            refine Wp.reg_seq (own := fun _ => false) tt_ok ?_
            iterate 4
              refine regv_pure (s1 := ?_) rfl rfl ?_ ?_ ?_
              rotate_left
              · simp [aCts, aCos, hc, hlt, rowCt, hwrap, hol, h0, h4, hw', hs0, hs1, hs2, hs3, hs4, hwr2]; rfl
              · first | (simp [aCts, aCos, hc, hlt, rowCt, hwrap, hol, h0, h4, hw', hs0, hs1, hs2, hs3, hs4, hwr2]; done) | (simp [aCts, aCos, hc, hlt, rowCt, hwrap, hol, h0, h4, hw', hs0, hs1, hs2, hs3, hs4, hwr2]; omega) | (simp [aCts, aCos, hc, hlt, rowCt, hwrap, hol, h0, h4, hw', hs0, hs1, hs2, hs3, hs4, hwr2, rowsOf]; omega) | skip
            first
              | (refine regv_pure (s1 := ?_) rfl ?_ ?_ ?_ ?_
                 rotate_left
                 · simp [aCts, aCos, hc, hlt, rowCt, hwrap, hol, h0, h4, hw', hs0, hs1, hs2, hs3, hs4, hwr2]; done
                 · simp [aCts, aCos, hc, hlt, rowCt, hwrap, hol, h0, h4, hw', hs0, hs1, hs2, hs3, hs4, hwr2]; rfl
                 · first | (simp [aCts, aCos, hc, hlt, rowCt, hwrap, hol, h0, h4, hw', hs0, hs1, hs2, hs3, hs4, hwr2]; done) | (simp [aCts, aCos, hc, hlt, rowCt, hwrap, hol, h0, h4, hw', hs0, hs1, hs2, hs3, hs4, hwr2]; omega) | (simp [aCts, aCos, hc, hlt, rowCt, hwrap, hol, h0, h4, hw', hs0, hs1, hs2, hs3, hs4, hwr2, rowsOf]; omega) | skip)
              | (refine regv_skip (s1 := ?_) ?_ ?_ ?_
                 rotate_left
                 · simp [aCts, aCos, hc, hlt, rowCt, hwrap, hol, h0, h4, hw', hs0, hs1, hs2, hs3, hs4, hwr2]; done
                 · simp [aCts, aCos, hc, hlt, rowCt, hwrap, hol, h0, h4, hw', hs0, hs1, hs2, hs3, hs4, hwr2]; rfl)
            first
              | (refine regv_pure (s1 := ?_) rfl ?_ ?_ ?_ ?_
                 rotate_left
                 · simp [aCts, aCos, hc, hlt, rowCt, hwrap, hol, h0, h4, hw', hs0, hs1, hs2, hs3, hs4, hwr2]; done
                 · simp [aCts, aCos, hc, hlt, rowCt, hwrap, hol, h0, h4, hw', hs0, hs1, hs2, hs3, hs4, hwr2]; rfl
                 · first | (simp [aCts, aCos, hc, hlt, rowCt, hwrap, hol, h0, h4, hw', hs0, hs1, hs2, hs3, hs4, hwr2]; done) | (simp [aCts, aCos, hc, hlt, rowCt, hwrap, hol, h0, h4, hw', hs0, hs1, hs2, hs3, hs4, hwr2]; omega) | (simp [aCts, aCos, hc, hlt, rowCt, hwrap, hol, h0, h4, hw', hs0, hs1, hs2, hs3, hs4, hwr2, rowsOf]; omega) | skip)
              | (refine regv_skip (s1 := ?_) ?_ ?_ ?_
                 rotate_left
                 · simp [aCts, aCos, hc, hlt, rowCt, hwrap, hol, h0, h4, hw', hs0, hs1, hs2, hs3, hs4, hwr2]; done
                 · simp [aCts, aCos, hc, hlt, rowCt, hwrap, hol, h0, h4, hw', hs0, hs1, hs2, hs3, hs4, hwr2]; rfl)
            first
              | (refine regv_pure (s1 := ?_) rfl ?_ ?_ ?_ ?_
                 rotate_left
                 · simp [aCts, aCos, hc, hlt, rowCt, hwrap, hol, h0, h4, hw', hs0, hs1, hs2, hs3, hs4, hwr2]; done
                 · simp [aCts, aCos, hc, hlt, rowCt, hwrap, hol, h0, h4, hw', hs0, hs1, hs2, hs3, hs4, hwr2]; rfl
                 · first | (simp [aCts, aCos, hc, hlt, rowCt, hwrap, hol, h0, h4, hw', hs0, hs1, hs2, hs3, hs4, hwr2]; done) | (simp [aCts, aCos, hc, hlt, rowCt, hwrap, hol, h0, h4, hw', hs0, hs1, hs2, hs3, hs4, hwr2]; omega) | (simp [aCts, aCos, hc, hlt, rowCt, hwrap, hol, h0, h4, hw', hs0, hs1, hs2, hs3, hs4, hwr2, rowsOf]; omega) | skip)
              | (refine regv_skip (s1 := ?_) ?_ ?_ ?_
                 rotate_left
                 · simp [aCts, aCos, hc, hlt, rowCt, hwrap, hol, h0, h4, hw', hs0, hs1, hs2, hs3, hs4, hwr2]; done
                 · simp [aCts, aCos, hc, hlt, rowCt, hwrap, hol, h0, h4, hw', hs0, hs1, hs2, hs3, hs4, hwr2]; rfl)
            iterate 1
              refine regv_pure (s1 := ?_) rfl rfl ?_ ?_ ?_
              rotate_left
              · simp [aCts, aCos, hc, hlt, rowCt, hwrap, hol, h0, h4, hw', hs0, hs1, hs2, hs3, hs4, hwr2]; rfl
              · first | (simp [aCts, aCos, hc, hlt, rowCt, hwrap, hol, h0, h4, hw', hs0, hs1, hs2, hs3, hs4, hwr2]; done) | (simp [aCts, aCos, hc, hlt, rowCt, hwrap, hol, h0, h4, hw', hs0, hs1, hs2, hs3, hs4, hwr2]; omega) | (simp [aCts, aCos, hc, hlt, rowCt, hwrap, hol, h0, h4, hw', hs0, hs1, hs2, hs3, hs4, hwr2, rowsOf]; omega) | skip
            refine regv_nil ?_
            refine Wp.cond false rfl (fun h => by cases h) (fun _ => ?_)
            refine Wp.skip ?_
            show Wp _ _ _ _
            refine Wp.reg_seq (own := fun _ => false) tt_ok ?_
            iterate 4
              refine regv_pure (s1 := ?_) rfl rfl ?_ ?_ ?_
              rotate_left
              · simp [aCts, aCos, hc, hlt, rowCt, hwrap, hol, h0, h4, hw', hs0, hs1, hs2, hs3, hs4, hwr2]; rfl
              · first | (simp [aCts, aCos, hc, hlt, rowCt, hwrap, hol, h0, h4, hw', hs0, hs1, hs2, hs3, hs4, hwr2]; done) | (simp [aCts, aCos, hc, hlt, rowCt, hwrap, hol, h0, h4, hw', hs0, hs1, hs2, hs3, hs4, hwr2]; omega) | (simp [aCts, aCos, hc, hlt, rowCt, hwrap, hol, h0, h4, hw', hs0, hs1, hs2, hs3, hs4, hwr2, rowsOf]; omega) | skip
            refine regv_call (s' := ?_) (hrd) rfl rfl rfl rfl rfl ?_ ?_ ?_ ?_
            rotate_left 1
            · first | (simp [aCts, aCos, hc, hlt, rowCt, hwrap, hol, h0, h4, hw', hs0, hs1, hs2, hs3, hs4, hwr2]; done) | (simp [aCts, aCos, hc, hlt, rowCt, hwrap, hol, h0, h4, hw', hs0, hs1, hs2, hs3, hs4, hwr2]; omega) | (simp [aCts, aCos, hc, hlt, rowCt, hwrap, hol, h0, h4, hw', hs0, hs1, hs2, hs3, hs4, hwr2, rowsOf]; omega) | skip
            · simp
            · simp [aCts, aCos, hc, hlt, rowCt, hwrap, hol, h0, h4, hw', hs0, hs1, hs2, hs3, hs4, hwr2]; rfl
            iterate 5
              refine regv_pure (s1 := ?_) rfl rfl ?_ ?_ ?_
              rotate_left
              · simp [aCts, aCos, hc, hlt, rowCt, hwrap, hol, h0, h4, hw', hs0, hs1, hs2, hs3, hs4, hwr2]; rfl
              · first | (simp [aCts, aCos, hc, hlt, rowCt, hwrap, hol, h0, h4, hw', hs0, hs1, hs2, hs3, hs4, hwr2]; done) | (simp [aCts, aCos, hc, hlt, rowCt, hwrap, hol, h0, h4, hw', hs0, hs1, hs2, hs3, hs4, hwr2]; omega) | (simp [aCts, aCos, hc, hlt, rowCt, hwrap, hol, h0, h4, hw', hs0, hs1, hs2, hs3, hs4, hwr2, rowsOf]; omega) | skip
            refine regv_nil ?_
            refine Wp.seq ?_
            refine Wp.reg_seq (own := fun _ => false) tt_ok ?_
            iterate 2
              refine regv_pure (s1 := ?_) rfl rfl ?_ ?_ ?_
              rotate_left
              · simp [aCts, aCos, hc, hlt, rowCt, hwrap, hol, h0, h4, hw', hs0, hs1, hs2, hs3, hs4, hwr2]; rfl
              · first | (simp [aCts, aCos, hc, hlt, rowCt, hwrap, hol, h0, h4, hw', hs0, hs1, hs2, hs3, hs4, hwr2]; done) | (simp [aCts, aCos, hc, hlt, rowCt, hwrap, hol, h0, h4, hw', hs0, hs1, hs2, hs3, hs4, hwr2]; omega) | (simp [aCts, aCos, hc, hlt, rowCt, hwrap, hol, h0, h4, hw', hs0, hs1, hs2, hs3, hs4, hwr2, rowsOf]; omega) | skip
            refine regv_nil ?_
            refine Wp.cond false rfl (fun h => by cases h) (fun _ => ?_)
            refine Wp.skip ?_
            show Wp _ _ _ _
            refine Wp.reg_seq (own := fun _ => false) tt_ok ?_
            iterate 1
              refine regv_pure (s1 := ?_) rfl rfl ?_ ?_ ?_
              rotate_left
              · simp [aCts, aCos, hc, hlt, rowCt, hwrap, hol, h0, h4, hw', hs0, hs1, hs2, hs3, hs4, hwr2]; rfl
              · first | (simp [aCts, aCos, hc, hlt, rowCt, hwrap, hol, h0, h4, hw', hs0, hs1, hs2, hs3, hs4, hwr2]; done) | (simp [aCts, aCos, hc, hlt, rowCt, hwrap, hol, h0, h4, hw', hs0, hs1, hs2, hs3, hs4, hwr2]; omega) | (simp [aCts, aCos, hc, hlt, rowCt, hwrap, hol, h0, h4, hw', hs0, hs1, hs2, hs3, hs4, hwr2, rowsOf]; omega) | skip
            refine regv_nil ?_
            refine Wp.seq ?_
            refine Wp.reg_seq (own := fun _ => false) tt_ok ?_
            iterate 1
              refine regv_pure (s1 := ?_) rfl rfl ?_ ?_ ?_
              rotate_left
              · simp [aCts, aCos, hc, hlt, rowCt, hwrap, hol, h0, h4, hw', hs0, hs1, hs2, hs3, hs4, hwr2]; rfl
              · first | (simp [aCts, aCos, hc, hlt, rowCt, hwrap, hol, h0, h4, hw', hs0, hs1, hs2, hs3, hs4, hwr2]; done) | (simp [aCts, aCos, hc, hlt, rowCt, hwrap, hol, h0, h4, hw', hs0, hs1, hs2, hs3, hs4, hwr2]; omega) | (simp [aCts, aCos, hc, hlt, rowCt, hwrap, hol, h0, h4, hw', hs0, hs1, hs2, hs3, hs4, hwr2, rowsOf]; omega) | skip
            refine regv_call (s' := ?_) (hsee) rfl rfl rfl rfl rfl ?_ ?_ ?_ ?_
            rotate_left 1
            · first | (simp [aCts, aCos, hc, hlt, rowCt, hwrap, hol, h0, h4, hw', hs0, hs1, hs2, hs3, hs4, hwr2]; done) | (simp [aCts, aCos, hc, hlt, rowCt, hwrap, hol, h0, h4, hw', hs0, hs1, hs2, hs3, hs4, hwr2]; omega) | (simp [aCts, aCos, hc, hlt, rowCt, hwrap, hol, h0, h4, hw', hs0, hs1, hs2, hs3, hs4, hwr2, rowsOf]; omega) | skip
            · simp
            · simp [aCts, aCos, hc, hlt, rowCt, hwrap, hol, h0, h4, hw', hs0, hs1, hs2, hs3, hs4, hwr2]; rfl
            refine regv_nil ?_
            refine Wp.cond true rfl (fun _ => ?_) (fun h => by cases h)
            refine Wp.seq ?_
            refine Wp.reg_seq (own := fun _ => false) tt_ok ?_
            iterate 3
              refine regv_pure (s1 := ?_) rfl rfl ?_ ?_ ?_
              rotate_left
              · simp [aCts, aCos, hc, hlt, rowCt, hwrap, hol, h0, h4, hw', hs0, hs1, hs2, hs3, hs4, hwr2]; rfl
              · first | (simp [aCts, aCos, hc, hlt, rowCt, hwrap, hol, h0, h4, hw', hs0, hs1, hs2, hs3, hs4, hwr2]; done) | (simp [aCts, aCos, hc, hlt, rowCt, hwrap, hol, h0, h4, hw', hs0, hs1, hs2, hs3, hs4, hwr2]; omega) | (simp [aCts, aCos, hc, hlt, rowCt, hwrap, hol, h0, h4, hw', hs0, hs1, hs2, hs3, hs4, hwr2, rowsOf]; omega) | skip
            first
              | (refine regv_pure (s1 := ?_) rfl ?_ ?_ ?_ ?_
                 rotate_left
                 · simp [aCts, aCos, hc, hlt, rowCt, hwrap, hol, h0, h4, hw', hs0, hs1, hs2, hs3, hs4, hwr2]; done
                 · simp [aCts, aCos, hc, hlt, rowCt, hwrap, hol, h0, h4, hw', hs0, hs1, hs2, hs3, hs4, hwr2]; rfl
                 · first | (simp [aCts, aCos, hc, hlt, rowCt, hwrap, hol, h0, h4, hw', hs0, hs1, hs2, hs3, hs4, hwr2]; done) | (simp [aCts, aCos, hc, hlt, rowCt, hwrap, hol, h0, h4, hw', hs0, hs1, hs2, hs3, hs4, hwr2]; omega) | (simp [aCts, aCos, hc, hlt, rowCt, hwrap, hol, h0, h4, hw', hs0, hs1, hs2, hs3, hs4, hwr2, rowsOf]; omega) | skip)
              | (refine regv_skip (s1 := ?_) ?_ ?_ ?_
                 rotate_left
                 · simp [aCts, aCos, hc, hlt, rowCt, hwrap, hol, h0, h4, hw', hs0, hs1, hs2, hs3, hs4, hwr2]; done
                 · simp [aCts, aCos, hc, hlt, rowCt, hwrap, hol, h0, h4, hw', hs0, hs1, hs2, hs3, hs4, hwr2]; rfl)
            first
              | (refine regv_pure (s1 := ?_) rfl ?_ ?_ ?_ ?_
                 rotate_left
                 · simp [aCts, aCos, hc, hlt, rowCt, hwrap, hol, h0, h4, hw', hs0, hs1, hs2, hs3, hs4, hwr2]; done
                 · simp [aCts, aCos, hc, hlt, rowCt, hwrap, hol, h0, h4, hw', hs0, hs1, hs2, hs3, hs4, hwr2]; rfl
                 · first | (simp [aCts, aCos, hc, hlt, rowCt, hwrap, hol, h0, h4, hw', hs0, hs1, hs2, hs3, hs4, hwr2]; done) | (simp [aCts, aCos, hc, hlt, rowCt, hwrap, hol, h0, h4, hw', hs0, hs1, hs2, hs3, hs4, hwr2]; omega) | (simp [aCts, aCos, hc, hlt, rowCt, hwrap, hol, h0, h4, hw', hs0, hs1, hs2, hs3, hs4, hwr2, rowsOf]; omega) | skip)
              | (refine regv_skip (s1 := ?_) ?_ ?_ ?_
                 rotate_left
                 · simp [aCts, aCos, hc, hlt, rowCt, hwrap, hol, h0, h4, hw', hs0, hs1, hs2, hs3, hs4, hwr2]; done
                 · simp [aCts, aCos, hc, hlt, rowCt, hwrap, hol, h0, h4, hw', hs0, hs1, hs2, hs3, hs4, hwr2]; rfl)
            first
              | (refine regv_pure (s1 := ?_) rfl ?_ ?_ ?_ ?_
                 rotate_left
                 · simp [aCts, aCos, hc, hlt, rowCt, hwrap, hol, h0, h4, hw', hs0, hs1, hs2, hs3, hs4, hwr2]; done
                 · simp [aCts, aCos, hc, hlt, rowCt, hwrap, hol, h0, h4, hw', hs0, hs1, hs2, hs3, hs4, hwr2]; rfl
                 · first | (simp [aCts, aCos, hc, hlt, rowCt, hwrap, hol, h0, h4, hw', hs0, hs1, hs2, hs3, hs4, hwr2]; done) | (simp [aCts, aCos, hc, hlt, rowCt, hwrap, hol, h0, h4, hw', hs0, hs1, hs2, hs3, hs4, hwr2]; omega) | (simp [aCts, aCos, hc, hlt, rowCt, hwrap, hol, h0, h4, hw', hs0, hs1, hs2, hs3, hs4, hwr2, rowsOf]; omega) | skip)
              | (refine regv_skip (s1 := ?_) ?_ ?_ ?_
                 rotate_left
                 · simp [aCts, aCos, hc, hlt, rowCt, hwrap, hol, h0, h4, hw', hs0, hs1, hs2, hs3, hs4, hwr2]; done
                 · simp [aCts, aCos, hc, hlt, rowCt, hwrap, hol, h0, h4, hw', hs0, hs1, hs2, hs3, hs4, hwr2]; rfl)
            first
              | (refine regv_pure (s1 := ?_) rfl ?_ ?_ ?_ ?_
                 rotate_left
                 · simp [aCts, aCos, hc, hlt, rowCt, hwrap, hol, h0, h4, hw', hs0, hs1, hs2, hs3, hs4, hwr2]; done
                 · simp [aCts, aCos, hc, hlt, rowCt, hwrap, hol, h0, h4, hw', hs0, hs1, hs2, hs3, hs4, hwr2]; rfl
                 · first | (simp [aCts, aCos, hc, hlt, rowCt, hwrap, hol, h0, h4, hw', hs0, hs1, hs2, hs3, hs4, hwr2]; done) | (simp [aCts, aCos, hc, hlt, rowCt, hwrap, hol, h0, h4, hw', hs0, hs1, hs2, hs3, hs4, hwr2]; omega) | (simp [aCts, aCos, hc, hlt, rowCt, hwrap, hol, h0, h4, hw', hs0, hs1, hs2, hs3, hs4, hwr2, rowsOf]; omega) | skip)
              | (refine regv_skip (s1 := ?_) ?_ ?_ ?_
                 rotate_left
                 · simp [aCts, aCos, hc, hlt, rowCt, hwrap, hol, h0, h4, hw', hs0, hs1, hs2, hs3, hs4, hwr2]; done
                 · simp [aCts, aCos, hc, hlt, rowCt, hwrap, hol, h0, h4, hw', hs0, hs1, hs2, hs3, hs4, hwr2]; rfl)
            first
              | (refine regv_pure (s1 := ?_) rfl ?_ ?_ ?_ ?_
                 rotate_left
                 · simp [aCts, aCos, hc, hlt, rowCt, hwrap, hol, h0, h4, hw', hs0, hs1, hs2, hs3, hs4, hwr2]; done
                 · simp [aCts, aCos, hc, hlt, rowCt, hwrap, hol, h0, h4, hw', hs0, hs1, hs2, hs3, hs4, hwr2]; rfl
                 · first | (simp [aCts, aCos, hc, hlt, rowCt, hwrap, hol, h0, h4, hw', hs0, hs1, hs2, hs3, hs4, hwr2]; done) | (simp [aCts, aCos, hc, hlt, rowCt, hwrap, hol, h0, h4, hw', hs0, hs1, hs2, hs3, hs4, hwr2]; omega) | (simp [aCts, aCos, hc, hlt, rowCt, hwrap, hol, h0, h4, hw', hs0, hs1, hs2, hs3, hs4, hwr2, rowsOf]; omega) | skip)
              | (refine regv_skip (s1 := ?_) ?_ ?_ ?_
                 rotate_left
                 · simp [aCts, aCos, hc, hlt, rowCt, hwrap, hol, h0, h4, hw', hs0, hs1, hs2, hs3, hs4, hwr2]; done
                 · simp [aCts, aCos, hc, hlt, rowCt, hwrap, hol, h0, h4, hw', hs0, hs1, hs2, hs3, hs4, hwr2]; rfl)
            iterate 1
              refine regv_pure (s1 := ?_) rfl rfl ?_ ?_ ?_
              rotate_left
              · simp [aCts, aCos, hc, hlt, rowCt, hwrap, hol, h0, h4, hw', hs0, hs1, hs2, hs3, hs4, hwr2]; rfl
              · first | (simp [aCts, aCos, hc, hlt, rowCt, hwrap, hol, h0, h4, hw', hs0, hs1, hs2, hs3, hs4, hwr2]; done) | (simp [aCts, aCos, hc, hlt, rowCt, hwrap, hol, h0, h4, hw', hs0, hs1, hs2, hs3, hs4, hwr2]; omega) | (simp [aCts, aCos, hc, hlt, rowCt, hwrap, hol, h0, h4, hw', hs0, hs1, hs2, hs3, hs4, hwr2, rowsOf]; omega) | skip
            refine regv_nil ?_
            refine Wp.cond false rfl (fun h => by cases h) (fun _ => ?_)
            refine Wp.skip ?_
            show Wp _ _ _ _
            refine Wp.drawn (own := fun _ => false) tt_ok mixed [2, 3] (by decide +kernel) trivial ?_
            refine regI_upto 11 (r := ?_) ?_ ?_ ?_
            rotate_left
            · simp [List.range, List.range.loop, aCts, aCos, hc, hlt, rowCt, hwrap, hol, h0, h4, hw', hs0, hs1, hs2, hs3, hs4, hwr2]; rfl
            · first | (simp [aCts, aCos, hc, hlt, rowCt, hwrap, hol, h0, h4, hw', hs0, hs1, hs2, hs3, hs4, hwr2]; done) | (simp [aCts, aCos, hc, hlt, rowCt, hwrap, hol, h0, h4, hw', hs0, hs1, hs2, hs3, hs4, hwr2]; omega) | (simp [aCts, aCos, hc, hlt, rowCt, hwrap, hol, h0, h4, hw', hs0, hs1, hs2, hs3, hs4, hwr2, rowsOf]; omega) | skip
            refine regI_bar (r := ?_) tt_ok rfl rfl rfl rfl ?_ ?_ ?_
            rotate_left
            · simp [aCts, aCos, hc, hlt, rowCt, hwrap, hol, h0, h4, hw', hs0, hs1, hs2, hs3, hs4, hwr2]; rfl
            · first | (simp [aCts, aCos, hc, hlt, rowCt, hwrap, hol, h0, h4, hw', hs0, hs1, hs2, hs3, hs4, hwr2]; done) | (simp [aCts, aCos, hc, hlt, rowCt, hwrap, hol, h0, h4, hw', hs0, hs1, hs2, hs3, hs4, hwr2]; omega) | (simp [aCts, aCos, hc, hlt, rowCt, hwrap, hol, h0, h4, hw', hs0, hs1, hs2, hs3, hs4, hwr2, rowsOf]; omega) | skip
            refine regI_nil ?_
            refine Wp.reg (own := fun _ => false) tt_ok ?_
            iterate 3
              refine regv_pure (s1 := ?_) rfl rfl ?_ ?_ ?_
              rotate_left
              · simp [aCts, aCos, hc, hlt, rowCt, hwrap, hol, h0, h4, hw', hs0, hs1, hs2, hs3, hs4, hwr2]; rfl
              · first | (simp [aCts, aCos, hc, hlt, rowCt, hwrap, hol, h0, h4, hw', hs0, hs1, hs2, hs3, hs4, hwr2]; done) | (simp [aCts, aCos, hc, hlt, rowCt, hwrap, hol, h0, h4, hw', hs0, hs1, hs2, hs3, hs4, hwr2]; omega) | (simp [aCts, aCos, hc, hlt, rowCt, hwrap, hol, h0, h4, hw', hs0, hs1, hs2, hs3, hs4, hwr2, rowsOf]; omega) | skip
            refine regv_nil ?_
            show Wp _ _ _ _
            refine Wp.reg (own := fun _ => false) tt_ok ?_
            iterate 6
              refine regv_pure (s1 := ?_) rfl rfl ?_ ?_ ?_
              rotate_left
              · simp [aCts, aCos, hc, hlt, rowCt, hwrap, hol, h0, h4, hw', hs0, hs1, hs2, hs3, hs4, hwr2]; rfl
              · first | (simp [aCts, aCos, hc, hlt, rowCt, hwrap, hol, h0, h4, hw', hs0, hs1, hs2, hs3, hs4, hwr2]; done) | (simp [aCts, aCos, hc, hlt, rowCt, hwrap, hol, h0, h4, hw', hs0, hs1, hs2, hs3, hs4, hwr2]; omega) | (simp [aCts, aCos, hc, hlt, rowCt, hwrap, hol, h0, h4, hw', hs0, hs1, hs2, hs3, hs4, hwr2, rowsOf]; omega) | skip
            refine regv_call (s' := ?_) (hcn) rfl rfl rfl rfl rfl ?_ ?_ ?_ ?_
            rotate_left 1
            · first | (simp [aCts, aCos, hc, hlt, rowCt, hwrap, hol, h0, h4, hw', hs0, hs1, hs2, hs3, hs4, hwr2]; done) | (simp [aCts, aCos, hc, hlt, rowCt, hwrap, hol, h0, h4, hw', hs0, hs1, hs2, hs3, hs4, hwr2]; omega) | (simp [aCts, aCos, hc, hlt, rowCt, hwrap, hol, h0, h4, hw', hs0, hs1, hs2, hs3, hs4, hwr2, rowsOf]; omega) | skip
            · simp
            · simp [aCts, aCos, hc, hlt, rowCt, hwrap, hol, h0, h4, hw', hs0, hs1, hs2, hs3, hs4, hwr2]; rfl
            iterate 2
              refine regv_pure (s1 := ?_) rfl rfl ?_ ?_ ?_
              rotate_left
              · simp [aCts, aCos, hc, hlt, rowCt, hwrap, hol, h0, h4, hw', hs0, hs1, hs2, hs3, hs4, hwr2]; rfl
              · first | (simp [aCts, aCos, hc, hlt, rowCt, hwrap, hol, h0, h4, hw', hs0, hs1, hs2, hs3, hs4, hwr2]; done) | (simp [aCts, aCos, hc, hlt, rowCt, hwrap, hol, h0, h4, hw', hs0, hs1, hs2, hs3, hs4, hwr2]; omega) | (simp [aCts, aCos, hc, hlt, rowCt, hwrap, hol, h0, h4, hw', hs0, hs1, hs2, hs3, hs4, hwr2, rowsOf]; omega) | skip
            refine regv_nil ?_
            show Wp _ _ _ _
            refine Wp.reg (own := fun _ => false) tt_ok ?_
            iterate 2
              refine regv_pure (s1 := ?_) rfl rfl ?_ ?_ ?_
              rotate_left
              · simp [aCts, aCos, hc, hlt, rowCt, hwrap, hol, h0, h4, hw', hs0, hs1, hs2, hs3, hs4, hwr2]; rfl
              · first | (simp [aCts, aCos, hc, hlt, rowCt, hwrap, hol, h0, h4, hw', hs0, hs1, hs2, hs3, hs4, hwr2]; done) | (simp [aCts, aCos, hc, hlt, rowCt, hwrap, hol, h0, h4, hw', hs0, hs1, hs2, hs3, hs4, hwr2]; omega) | (simp [aCts, aCos, hc, hlt, rowCt, hwrap, hol, h0, h4, hw', hs0, hs1, hs2, hs3, hs4, hwr2, rowsOf]; omega) | skip
            refine regv_nil ?_
            refine loopQ_next ⟨i + 1, slot + 1, e.set slot.toNat (readS ins q m c.sp c.n).1, onl.set i (condS c.kind (readS ins q m c.sp c.n).1 (e.getD slot.toNat false))⟩ ⟨by simp only; omega, hspec, by simpa using hel, by simpa using hol, by simp only; omega⟩ (by simp only; omega) ?_
            refine Reloc.mk2 [some 0, some 1, some 2, some 3, some 4] rfl rfl rfl (by decide) ?_ ?_
            · repeat' first | exact objsLe_nil | refine objsLe_cons ?_ ?_
              all_goals first
                | (refine ObjLe.var' rfl rfl ?_ rfl
                   repeat' first | exact All2.nil | refine All2.cons ?_ ?_
                   all_goals first | (exact AvLe.refl _ rfl) | (exact AvLe.hptr _ _ _ _ rfl) | (exact AvLe.sl _ _ _ _ rfl) | (exact AvLe.sl' rfl (by simp) (by simp)) | (exact AvLe.mp _ _ rfl) | (exact AvLe.nil _) | (exact AvLe.ghost _ rfl) | (exact AvLe.eq (by simp [aCts, aCos, hc, hlt, rowCt, hwrap, hol, h0, h4, hw', hs0, hs1, hs2, hs3, hs4, hwr2]; done) rfl) | (exact ObjLe.arr' rfl rfl (Nat.le_refl _) (fun k hk => set_row (by omega))))
                | (exact ObjLe.map' rfl rfl)
                | (exact ObjLe.ghost' rfl (by decide))
                | (exact ObjLe.arr' rfl rfl (by first | (simp; done) | (simp; omega)) (fun _ _ => rfl))
                | (exact ObjLe.arr' rfl rfl (Nat.le_refl _) (fun k hk => set_row (by omega)))
            · repeat' first | exact chLe_nil | refine chLe_cons ?_ ?_
              all_goals first
                | (exact AvLe.refl _ rfl)
                | (exact AvLe.hptr _ _ _ _ rfl)
                | (exact AvLe.sl _ _ _ _ rfl)
                | (exact AvLe.sl' rfl (by simp) (by simp))
                | (exact AvLe.mp _ _ rfl)
                | (exact AvLe.nil _)
                | (exact AvLe.ghost _ rfl)
                | (exact AvLe.eq (by simp [aCts, aCos, hc, hlt, rowCt, hwrap, hol, h0, h4, hw', hs0, hs1, hs2, hs3, hs4, hwr2]; done) rfl)
                | (exact ObjLe.arr' rfl rfl (Nat.le_refl _) (fun k hk => set_row (by omega)))
      ·
        rw [if_pos hw] at hspec
        have hw' : ((readS ins q m c.sp c.n).2 != 0) = true := by simp [hw]
        refine Wp.reg_seq (own := fun _ => false) tt_ok ?_
        iterate 1
          refine regv_pure (s1 := ?_) rfl rfl ?_ ?_ ?_
          rotate_left
          · simp [aCts, aCos, hc, hlt, rowCt, hwrap, hol, h0, h4, hw']; rfl
          · first | (simp [aCts, aCos, hc, hlt, rowCt, hwrap, hol, h0, h4, hw']; done) | (simp [aCts, aCos, hc, hlt, rowCt, hwrap, hol, h0, h4, hw']; omega) | (simp [aCts, aCos, hc, hlt, rowCt, hwrap, hol, h0, h4, hw', rowsOf]; omega) | skip
        refine regv_nil ?_
        refine Wp.seq ?_
        refine Wp.cond true rfl (fun _ => ?_) (fun h => by cases h)
        refine Wp.skip ?_
        show Wp _ _ _ _
        refine Wp.seq ?_
        refine Wp.block ?_
        refine Wp.reg_seq (own := fun _ => false) tt_ok ?_
        iterate 6
          refine regv_pure (s1 := ?_) rfl rfl ?_ ?_ ?_
          rotate_left
          · simp [aCts, aCos, hc, hlt, rowCt, hwrap, hol, h0, h4, hw']; rfl
          · first | (simp [aCts, aCos, hc, hlt, rowCt, hwrap, hol, h0, h4, hw']; done) | (simp [aCts, aCos, hc, hlt, rowCt, hwrap, hol, h0, h4, hw']; omega) | (simp [aCts, aCos, hc, hlt, rowCt, hwrap, hol, h0, h4, hw', rowsOf]; omega) | skip
        refine regv_nil ?_
        refine Wp.seq ?_
        refine Wp.reg_seq (own := fun _ => false) tt_ok ?_
        iterate 4
          refine regv_pure (s1 := ?_) rfl rfl ?_ ?_ ?_
          rotate_left
          · simp [aCts, aCos, hc, hlt, rowCt, hwrap, hol, h0, h4, hw']; rfl
          · first | (simp [aCts, aCos, hc, hlt, rowCt, hwrap, hol, h0, h4, hw']; done) | (simp [aCts, aCos, hc, hlt, rowCt, hwrap, hol, h0, h4, hw']; omega) | (simp [aCts, aCos, hc, hlt, rowCt, hwrap, hol, h0, h4, hw', rowsOf]; omega) | skip
        first
          | (refine regv_pure (s1 := ?_) rfl ?_ ?_ ?_ ?_
             rotate_left
             · simp [aCts, aCos, hc, hlt, rowCt, hwrap, hol, h0, h4, hw']; done
             · simp [aCts, aCos, hc, hlt, rowCt, hwrap, hol, h0, h4, hw']; rfl
             · first | (simp [aCts, aCos, hc, hlt, rowCt, hwrap, hol, h0, h4, hw']; done) | (simp [aCts, aCos, hc, hlt, rowCt, hwrap, hol, h0, h4, hw']; omega) | (simp [aCts, aCos, hc, hlt, rowCt, hwrap, hol, h0, h4, hw', rowsOf]; omega) | skip)
          | (refine regv_skip (s1 := ?_) ?_ ?_ ?_
             rotate_left
             · simp [aCts, aCos, hc, hlt, rowCt, hwrap, hol, h0, h4, hw']; done
             · simp [aCts, aCos, hc, hlt, rowCt, hwrap, hol, h0, h4, hw']; rfl)
        first
          | (refine regv_pure (s1 := ?_) rfl ?_ ?_ ?_ ?_
             rotate_left
             · simp [aCts, aCos, hc, hlt, rowCt, hwrap, hol, h0, h4, hw']; done
             · simp [aCts, aCos, hc, hlt, rowCt, hwrap, hol, h0, h4, hw']; rfl
             · first | (simp [aCts, aCos, hc, hlt, rowCt, hwrap, hol, h0, h4, hw']; done) | (simp [aCts, aCos, hc, hlt, rowCt, hwrap, hol, h0, h4, hw']; omega) | (simp [aCts, aCos, hc, hlt, rowCt, hwrap, hol, h0, h4, hw', rowsOf]; omega) | skip)
          | (refine regv_skip (s1 := ?_) ?_ ?_ ?_
             rotate_left
             · simp [aCts, aCos, hc, hlt, rowCt, hwrap, hol, h0, h4, hw']; done
             · simp [aCts, aCos, hc, hlt, rowCt, hwrap, hol, h0, h4, hw']; rfl)
        first
          | (refine regv_pure (s1 := ?_) rfl ?_ ?_ ?_ ?_
             rotate_left
             · simp [aCts, aCos, hc, hlt, rowCt, hwrap, hol, h0, h4, hw']; done
             · simp [aCts, aCos, hc, hlt, rowCt, hwrap, hol, h0, h4, hw']; rfl
             · first | (simp [aCts, aCos, hc, hlt, rowCt, hwrap, hol, h0, h4, hw']; done) | (simp [aCts, aCos, hc, hlt, rowCt, hwrap, hol, h0, h4, hw']; omega) | (simp [aCts, aCos, hc, hlt, rowCt, hwrap, hol, h0, h4, hw', rowsOf]; omega) | skip)
          | (refine regv_skip (s1 := ?_) ?_ ?_ ?_
             rotate_left
             · simp [aCts, aCos, hc, hlt, rowCt, hwrap, hol, h0, h4, hw']; done
             · simp [aCts, aCos, hc, hlt, rowCt, hwrap, hol, h0, h4, hw']; rfl)
        iterate 1
          refine regv_pure (s1 := ?_) rfl rfl ?_ ?_ ?_
          rotate_left
          · simp [aCts, aCos, hc, hlt, rowCt, hwrap, hol, h0, h4, hw']; rfl
          · first | (simp [aCts, aCos, hc, hlt, rowCt, hwrap, hol, h0, h4, hw']; done) | (simp [aCts, aCos, hc, hlt, rowCt, hwrap, hol, h0, h4, hw']; omega) | (simp [aCts, aCos, hc, hlt, rowCt, hwrap, hol, h0, h4, hw', rowsOf]; omega) | skip
        refine regv_nil ?_
        refine Wp.cond false rfl (fun h => by cases h) (fun _ => ?_)
        refine Wp.skip ?_
        show Wp _ _ _ _
        refine Wp.reg_seq (own := fun _ => false) tt_ok ?_
        iterate 4
          refine regv_pure (s1 := ?_) rfl rfl ?_ ?_ ?_
          rotate_left
          · simp [aCts, aCos, hc, hlt, rowCt, hwrap, hol, h0, h4, hw']; rfl
          · first | (simp [aCts, aCos, hc, hlt, rowCt, hwrap, hol, h0, h4, hw']; done) | (simp [aCts, aCos, hc, hlt, rowCt, hwrap, hol, h0, h4, hw']; omega) | (simp [aCts, aCos, hc, hlt, rowCt, hwrap, hol, h0, h4, hw', rowsOf]; omega) | skip
        refine regv_call (s' := ?_) (hrd) rfl rfl rfl rfl rfl ?_ ?_ ?_ ?_
        rotate_left 1
        · first | (simp [aCts, aCos, hc, hlt, rowCt, hwrap, hol, h0, h4, hw']; done) | (simp [aCts, aCos, hc, hlt, rowCt, hwrap, hol, h0, h4, hw']; omega) | (simp [aCts, aCos, hc, hlt, rowCt, hwrap, hol, h0, h4, hw', rowsOf]; omega) | skip
        · simp
        · simp [aCts, aCos, hc, hlt, rowCt, hwrap, hol, h0, h4, hw']; rfl
        iterate 5
          refine regv_pure (s1 := ?_) rfl rfl ?_ ?_ ?_
          rotate_left
          · simp [aCts, aCos, hc, hlt, rowCt, hwrap, hol, h0, h4, hw']; rfl
          · first | (simp [aCts, aCos, hc, hlt, rowCt, hwrap, hol, h0, h4, hw']; done) | (simp [aCts, aCos, hc, hlt, rowCt, hwrap, hol, h0, h4, hw']; omega) | (simp [aCts, aCos, hc, hlt, rowCt, hwrap, hol, h0, h4, hw', rowsOf]; omega) | skip
        refine regv_nil ?_
        refine Wp.seq ?_
        refine Wp.reg_seq (own := fun _ => false) tt_ok ?_
        iterate 2
          refine regv_pure (s1 := ?_) rfl rfl ?_ ?_ ?_
          rotate_left
          · simp [aCts, aCos, hc, hlt, rowCt, hwrap, hol, h0, h4, hw']; rfl
          · first | (simp [aCts, aCos, hc, hlt, rowCt, hwrap, hol, h0, h4, hw']; done) | (simp [aCts, aCos, hc, hlt, rowCt, hwrap, hol, h0, h4, hw']; omega) | (simp [aCts, aCos, hc, hlt, rowCt, hwrap, hol, h0, h4, hw', rowsOf]; omega) | skip
        refine regv_nil ?_
        refine Wp.cond true rfl (fun _ => ?_) (fun h => by cases h)
        refine Wp.reg_seq (own := fun _ => false) tt_ok ?_
        iterate 5
          refine regv_pure (s1 := ?_) rfl rfl ?_ ?_ ?_
          rotate_left
          · simp [aCts, aCos, hc, hlt, rowCt, hwrap, hol, h0, h4, hw']; rfl
          · first | (simp [aCts, aCos, hc, hlt, rowCt, hwrap, hol, h0, h4, hw']; done) | (simp [aCts, aCos, hc, hlt, rowCt, hwrap, hol, h0, h4, hw']; omega) | (simp [aCts, aCos, hc, hlt, rowCt, hwrap, hol, h0, h4, hw', rowsOf]; omega) | skip
        refine regv_nil ?_
        refine Wp.ret (endQ_ret0 rfl ?_)
        rw [hspec, if_neg (hw)]; exact .tups (.cons (.nil _) (.cons (.aggs (.cons (.nil _) (.cons (.nil _) (.cons (.nil _) .nil)))) (.cons (.refl _ rfl) .nil)))
  ·
    have hge : ¬ (i : Int) < cs.length := by omega
    have hdrop : cs.drop i = [] := List.drop_eq_nil_of_le hi
    rw [hdrop] at hspec
    simp only [contactsS] at hspec
    refine Wp.reg_seq (own := fun _ => false) tt_ok ?_
    iterate 1
      refine regv_pure (s1 := ?_) rfl rfl ?_ ?_ ?_
      rotate_left
      · simp [aCts, aCos, hge]; rfl
      · first | (simp [aCts, aCos, hge]; done) | (simp [aCts, aCos, hge]; omega) | (simp [aCts, aCos, hge, rowsOf]; omega) | skip
    refine regv_nil ?_
    refine Wp.seq ?_
    refine Wp.cond false rfl (fun h => by cases h) (fun _ => ?_)
    refine Wp.exit ?_
    show Wp _ _ _ _
    refine Wp.drawn (own := fun _ => false) tt_ok mixed [2, 3] (by decide +kernel) trivial ?_
    refine regI_upto 3 (r := ?_) ?_ ?_ ?_
    rotate_left
    · simp [List.range, List.range.loop, aCts, aCos, hge]; rfl
    · first | (simp [aCts, aCos, hge]; done) | (simp [aCts, aCos, hge]; omega) | (simp [aCts, aCos, hge, rowsOf]; omega) | skip
    refine regI_bar (r := ?_) tt_ok rfl rfl rfl rfl ?_ ?_ ?_
    rotate_left
    · simp [aCts, aCos, hge]; rfl
    · first | (simp [aCts, aCos, hge]; done) | (simp [aCts, aCos, hge]; omega) | (simp [aCts, aCos, hge, rowsOf]; omega) | skip
    refine regI_upto 1 (r := ?_) ?_ ?_ ?_
    rotate_left
    · simp [List.range, List.range.loop, aCts, aCos, hge]; rfl
    · first | (simp [aCts, aCos, hge]; done) | (simp [aCts, aCos, hge]; omega) | (simp [aCts, aCos, hge, rowsOf]; omega) | skip
    refine regI_nil ?_
    refine Wp.ret (endQ_ret0 rfl ?_)
    rw [hspec, if_pos rfl]
    exact .tups (.cons (.frz' rfl rfl rfl hol (by simp) (fun k hk => by simp [rowB])) (.cons (.aggs (.cons (.refl _ rfl) (.cons (.refl _ rfl) (.cons (.frz' rfl rfl rfl hel (by simp) (fun k hk => by simp [rowB])) .nil)))) (.cons (.refl _ rfl) .nil)))
end Go.Proofs.Ytgbgmijighbfbaa

/- The contract of TooLarge. -/
import Derived.Test.YtgbgmijighbfbaaT10
set_option linter.unusedSimpArgs false
set_option linter.unusedVariables false
namespace Go.Proofs.Ytgbgmijighbfbaa
open Go.Av
attribute [local simp] runf guardA opf St.ev Go.Av.look St.setd constAV constAV0 opBin opLen intBin St.need lookT TT0 tab resA resOne resAll blt_dec ble_dec beq_dec isPure
attribute [local simp] opMakeSlice opCopy opIndexAddr opLoad opStore St.mem St.rows opUn calleeA toArgs toArg toArg0 toArgs0 shift shift0 shift1 splice cellsOf isFree ofCells TS.isAgg isCell
attribute [local simp] aBools aState opBuildSlice fillA opAppend St.newBox runI valKind withinB readsHp refsD refs noSl opFieldAddr opBuild placeOf Op.operands Call.operands opIndex opExtract opSlice opField partA
attribute [local congr] bind_congr1 map_congr1 cond_congr1
attribute [local simp] aAddr aSta
set_option maxHeartbeats 4000000
set_option linter.unusedSimpArgs false

def totS : List Ct → Int → Int
  | [], a => a
  | c :: cs, a => totS cs (IntKind.i64.wrap (a + IntKind.i64.wrap (IntKind.i64.wrap (1 + (c.fr.size : Int)) + (c.to.size : Int))))

def tooS (cs : List Ct) : Int := if 2000 < totS cs 0 then 1 else if 60 < cs.length then 1 else 0

def tlHead (rung : List AV) (cs : List Ct) (x : Nat × Int) : St :=
  { ch := [(1, .hptr 0 0 0), (2, .int .i64 0), (3, .int .i64 x.2), (7, aCts cs), (8, .int .i64 cs.length), (9, .int .i64 x.1)], hp := [.var rung], base := 0, n := 32, cond := True }

theorem toolarge_con (lab j : ByteArray) (cs : List Ct) (os : List Co) (hcs : cs.length ≤ 4000000000) : Con Try.prog 10 [aRung lab cs os j] (.int .i64 (tooS cs)) [] := by
  refine con_of (T := TT0) tt_ok Try.func10 (c := _) (by unfold Try.f10; rfl) Try.ntmps10 (rs := [.tmp 2]) (by rw [Try.results10]) (by unfold Try.f10; rfl) (by simp) ?_
  simp only [argsCh, aRung]
  refine Wp.reg_seq (own := fun _ => false) tt_ok ?_
  iterate 2
    refine regv_pure (s1 := ?_) rfl rfl ?_ ?_ ?_
    rotate_left
    · simp [aCts, aCos]; rfl
    · first | (simp [aCts, aCos]; done) | (simp [aCts, aCos]; omega) | (simp [aCts, aCos, rowsOf]; omega) | skip
  refine regv_nil ?_
  refine Wp.reg_seq (own := fun _ => false) tt_ok ?_
  iterate 1
    refine regv_pure (s1 := ?_) rfl rfl ?_ ?_ ?_
    rotate_left
    · simp [aCts, aCos]; rfl
    · first | (simp [aCts, aCos]; done) | (simp [aCts, aCos]; omega) | (simp [aCts, aCos, rowsOf]; omega) | skip
  refine regv_nil ?_
  refine Wp.seq ?_
  refine Wp.reg_seq (own := fun _ => false) tt_ok ?_
  iterate 4
    refine regv_pure (s1 := ?_) rfl rfl ?_ ?_ ?_
    rotate_left
    · simp [aCts, aCos]; rfl
    · first | (simp [aCts, aCos]; done) | (simp [aCts, aCos]; omega) | (simp [aCts, aCos, rowsOf]; omega) | skip
  refine regv_nil ?_
  refine Wp.block ?_
  refine Wp.loop (α := Nat × Int) (tlHead [.str lab, aCts cs, aCos os, .str j] cs) (fun x => cs.length - x.1) (fun x => x.1 ≤ cs.length ∧ totS cs 0 = totS (cs.drop x.1) x.2) ?_ ((0, 0)) ?_ ?_
  rotate_left
  ·
    exact ⟨Nat.zero_le _, rfl⟩
  ·
    refine Reloc.mk2 [some 0] rfl rfl rfl (by decide) ?_ ?_
    · repeat' first | exact objsLe_nil | refine objsLe_cons ?_ ?_
      all_goals first
        | (refine ObjLe.var' rfl rfl ?_ rfl
           repeat' first | exact All2.nil | refine All2.cons ?_ ?_
           all_goals first | (exact AvLe.refl _ rfl) | (exact AvLe.hptr _ _ _ _ rfl) | (exact AvLe.sl _ _ _ _ rfl) | (exact AvLe.sl' rfl (by simp) (by simp)) | (exact AvLe.mp _ _ rfl) | (exact AvLe.nil _) | (exact AvLe.ghost _ rfl) | (exact AvLe.eq (by simp [aCts, aCos]; done) rfl))
        | (exact ObjLe.map' rfl rfl)
        | (exact ObjLe.ghost' rfl (by decide))
        | (exact ObjLe.arr' rfl rfl (by first | (simp; done) | (simp; omega)) (fun _ _ => rfl))
    · repeat' first | exact chLe_nil | refine chLe_cons ?_ ?_
      all_goals first
        | (exact AvLe.refl _ rfl)
        | (exact AvLe.hptr _ _ _ _ rfl)
        | (exact AvLe.sl _ _ _ _ rfl)
        | (exact AvLe.sl' rfl (by simp) (by simp))
        | (exact AvLe.mp _ _ rfl)
        | (exact AvLe.nil _)
        | (exact AvLe.ghost _ rfl)
        | (exact AvLe.eq (by simp [aCts, aCos]; done) rfl)
  rintro ⟨i, a⟩ ⟨hile, hspec⟩
  simp only [tlHead]
  simp only at hile hspec
  rcases Nat.lt_or_ge i cs.length with hi | hi
  ·
    obtain ⟨c, hc⟩ : ∃ c, cs[i]? = some c := ⟨cs[i], List.getElem?_eq_getElem hi⟩
    have hlt : (i : Int) < cs.length := by omega
    have hwrap := wrap_succ i (by omega)
    have hdrop : cs.drop i = c :: cs.drop (i + 1) := by rw [List.drop_eq_getElem_cons hi]; congr 1; rw [List.getElem?_eq_getElem hi] at hc; exact Option.some.inj hc
    rw [hdrop] at hspec
    simp only [totS] at hspec
    refine Wp.reg_seq (own := fun _ => false) tt_ok ?_
    iterate 1
      refine regv_pure (s1 := ?_) rfl rfl ?_ ?_ ?_
      rotate_left
      · simp [aCts, aCos, hc, hlt, rowCt, hwrap]; rfl
      · first | (simp [aCts, aCos, hc, hlt, rowCt, hwrap]; done) | (simp [aCts, aCos, hc, hlt, rowCt, hwrap]; omega) | (simp [aCts, aCos, hc, hlt, rowCt, hwrap, rowsOf]; omega) | skip
    refine regv_nil ?_
    refine Wp.seq ?_
    refine Wp.cond true rfl (fun _ => ?_) (fun h => by cases h)
    refine Wp.skip ?_
    show Wp _ _ _ _
    refine Wp.seq ?_
    refine Wp.block ?_
    refine Wp.reg_seq (own := fun _ => false) tt_ok ?_
    iterate 4
      refine regv_pure (s1 := ?_) rfl rfl ?_ ?_ ?_
      rotate_left
      · simp [aCts, aCos, hc, hlt, rowCt, hwrap]; rfl
      · first | (simp [aCts, aCos, hc, hlt, rowCt, hwrap]; done) | (simp [aCts, aCos, hc, hlt, rowCt, hwrap]; omega) | (simp [aCts, aCos, hc, hlt, rowCt, hwrap, rowsOf]; omega) | skip
    refine regv_nil ?_
    refine Wp.reg (own := fun _ => false) tt_ok ?_
    iterate 11
      refine regv_pure (s1 := ?_) rfl rfl ?_ ?_ ?_
      rotate_left
      · simp [aCts, aCos, hc, hlt, rowCt, hwrap]; rfl
      · first | (simp [aCts, aCos, hc, hlt, rowCt, hwrap]; done) | (simp [aCts, aCos, hc, hlt, rowCt, hwrap]; omega) | (simp [aCts, aCos, hc, hlt, rowCt, hwrap, rowsOf]; omega) | skip
    refine regv_nil ?_
    show Wp _ _ _ _
    refine Wp.reg (own := fun _ => false) tt_ok ?_
    iterate 2
      refine regv_pure (s1 := ?_) rfl rfl ?_ ?_ ?_
      rotate_left
      · simp [aCts, aCos, hc, hlt, rowCt, hwrap]; rfl
      · first | (simp [aCts, aCos, hc, hlt, rowCt, hwrap]; done) | (simp [aCts, aCos, hc, hlt, rowCt, hwrap]; omega) | (simp [aCts, aCos, hc, hlt, rowCt, hwrap, rowsOf]; omega) | skip
    refine regv_nil ?_
    refine loopQ_next (i + 1, _) ⟨by simp only; omega, hspec⟩ (by simp only; omega) ?_
    refine Reloc.mk2 [some 0] rfl rfl rfl (by decide) ?_ ?_
    · repeat' first | exact objsLe_nil | refine objsLe_cons ?_ ?_
      all_goals first
        | (refine ObjLe.var' rfl rfl ?_ rfl
           repeat' first | exact All2.nil | refine All2.cons ?_ ?_
           all_goals first | (exact AvLe.refl _ rfl) | (exact AvLe.hptr _ _ _ _ rfl) | (exact AvLe.sl _ _ _ _ rfl) | (exact AvLe.sl' rfl (by simp) (by simp)) | (exact AvLe.mp _ _ rfl) | (exact AvLe.nil _) | (exact AvLe.ghost _ rfl) | (exact AvLe.eq (by simp [aCts, aCos, hc, hlt, rowCt, hwrap]; done) rfl))
        | (exact ObjLe.map' rfl rfl)
        | (exact ObjLe.ghost' rfl (by decide))
        | (exact ObjLe.arr' rfl rfl (by first | (simp; done) | (simp; omega)) (fun _ _ => rfl))
    · repeat' first | exact chLe_nil | refine chLe_cons ?_ ?_
      all_goals first
        | (exact AvLe.refl _ rfl)
        | (exact AvLe.hptr _ _ _ _ rfl)
        | (exact AvLe.sl _ _ _ _ rfl)
        | (exact AvLe.sl' rfl (by simp) (by simp))
        | (exact AvLe.mp _ _ rfl)
        | (exact AvLe.nil _)
        | (exact AvLe.ghost _ rfl)
        | (exact AvLe.eq (by simp [aCts, aCos, hc, hlt, rowCt, hwrap]; done) rfl)
  ·
    have hge : ¬ (i : Int) < cs.length := by omega
    have hdrop : cs.drop i = [] := List.drop_eq_nil_of_le hi
    rw [hdrop] at hspec
    simp only [totS] at hspec
    by_cases ha : 2000 < a
    ·
      refine Wp.reg_seq (own := fun _ => false) tt_ok ?_
      iterate 1
        refine regv_pure (s1 := ?_) rfl rfl ?_ ?_ ?_
        rotate_left
        · simp [aCts, aCos, hge, ha]; rfl
        · first | (simp [aCts, aCos, hge, ha]; done) | (simp [aCts, aCos, hge, ha]; omega) | (simp [aCts, aCos, hge, ha, rowsOf]; omega) | skip
      refine regv_nil ?_
      refine Wp.seq ?_
      refine Wp.cond false rfl (fun h => by cases h) (fun _ => ?_)
      refine Wp.exit ?_
      show Wp _ _ _ _
      refine Wp.seq ?_
      refine Wp.reg_seq (own := fun _ => false) tt_ok ?_
      iterate 3
        refine regv_pure (s1 := ?_) rfl rfl ?_ ?_ ?_
        rotate_left
        · simp [aCts, aCos, hge, ha]; rfl
        · first | (simp [aCts, aCos, hge, ha]; done) | (simp [aCts, aCos, hge, ha]; omega) | (simp [aCts, aCos, hge, ha, rowsOf]; omega) | skip
      first
        | (refine regv_pure (s1 := ?_) rfl ?_ ?_ ?_ ?_
           rotate_left
           · simp [aCts, aCos, hge, ha]; done
           · simp [aCts, aCos, hge, ha]; rfl
           · first | (simp [aCts, aCos, hge, ha]; done) | (simp [aCts, aCos, hge, ha]; omega) | (simp [aCts, aCos, hge, ha, rowsOf]; omega) | skip)
        | (refine regv_skip (s1 := ?_) ?_ ?_ ?_
           rotate_left
           · simp [aCts, aCos, hge, ha]; done
           · simp [aCts, aCos, hge, ha]; rfl)
      first
        | (refine regv_pure (s1 := ?_) rfl ?_ ?_ ?_ ?_
           rotate_left
           · simp [aCts, aCos, hge, ha]; done
           · simp [aCts, aCos, hge, ha]; rfl
           · first | (simp [aCts, aCos, hge, ha]; done) | (simp [aCts, aCos, hge, ha]; omega) | (simp [aCts, aCos, hge, ha, rowsOf]; omega) | skip)
        | (refine regv_skip (s1 := ?_) ?_ ?_ ?_
           rotate_left
           · simp [aCts, aCos, hge, ha]; done
           · simp [aCts, aCos, hge, ha]; rfl)
      first
        | (refine regv_pure (s1 := ?_) rfl ?_ ?_ ?_ ?_
           rotate_left
           · simp [aCts, aCos, hge, ha]; done
           · simp [aCts, aCos, hge, ha]; rfl
           · first | (simp [aCts, aCos, hge, ha]; done) | (simp [aCts, aCos, hge, ha]; omega) | (simp [aCts, aCos, hge, ha, rowsOf]; omega) | skip)
        | (refine regv_skip (s1 := ?_) ?_ ?_ ?_
           rotate_left
           · simp [aCts, aCos, hge, ha]; done
           · simp [aCts, aCos, hge, ha]; rfl)
      first
        | (refine regv_pure (s1 := ?_) rfl ?_ ?_ ?_ ?_
           rotate_left
           · simp [aCts, aCos, hge, ha]; done
           · simp [aCts, aCos, hge, ha]; rfl
           · first | (simp [aCts, aCos, hge, ha]; done) | (simp [aCts, aCos, hge, ha]; omega) | (simp [aCts, aCos, hge, ha, rowsOf]; omega) | skip)
        | (refine regv_skip (s1 := ?_) ?_ ?_ ?_
           rotate_left
           · simp [aCts, aCos, hge, ha]; done
           · simp [aCts, aCos, hge, ha]; rfl)
      iterate 1
        refine regv_pure (s1 := ?_) rfl rfl ?_ ?_ ?_
        rotate_left
        · simp [aCts, aCos, hge, ha]; rfl
        · first | (simp [aCts, aCos, hge, ha]; done) | (simp [aCts, aCos, hge, ha]; omega) | (simp [aCts, aCos, hge, ha, rowsOf]; omega) | skip
      refine regv_nil ?_
      refine Wp.cond true rfl (fun _ => ?_) (fun h => by cases h)
      refine Wp.reg_seq (own := fun _ => false) tt_ok ?_
      iterate 1
        refine regv_pure (s1 := ?_) rfl rfl ?_ ?_ ?_
        rotate_left
        · simp [aCts, aCos, hge, ha]; rfl
        · first | (simp [aCts, aCos, hge, ha]; done) | (simp [aCts, aCos, hge, ha]; omega) | (simp [aCts, aCos, hge, ha, rowsOf]; omega) | skip
      refine regv_nil ?_
      refine Wp.ret (endQ_ret0 rfl ?_)
      exact .eq (by simp [tooS, hspec, ha]) rfl
    ·
      by_cases hb : 60 < cs.length
      ·
        have hb' : (60 : Int) < cs.length := by omega
        refine Wp.reg_seq (own := fun _ => false) tt_ok ?_
        iterate 1
          refine regv_pure (s1 := ?_) rfl rfl ?_ ?_ ?_
          rotate_left
          · simp [aCts, aCos, hge, ha, hb']; rfl
          · first | (simp [aCts, aCos, hge, ha, hb']; done) | (simp [aCts, aCos, hge, ha, hb']; omega) | (simp [aCts, aCos, hge, ha, hb', rowsOf]; omega) | skip
        refine regv_nil ?_
        refine Wp.seq ?_
        refine Wp.cond false rfl (fun h => by cases h) (fun _ => ?_)
        refine Wp.exit ?_
        show Wp _ _ _ _
        refine Wp.seq ?_
        refine Wp.reg_seq (own := fun _ => false) tt_ok ?_
        iterate 3
          refine regv_pure (s1 := ?_) rfl rfl ?_ ?_ ?_
          rotate_left
          · simp [aCts, aCos, hge, ha, hb']; rfl
          · first | (simp [aCts, aCos, hge, ha, hb']; done) | (simp [aCts, aCos, hge, ha, hb']; omega) | (simp [aCts, aCos, hge, ha, hb', rowsOf]; omega) | skip
        first
          | (refine regv_pure (s1 := ?_) rfl ?_ ?_ ?_ ?_
             rotate_left
             · simp [aCts, aCos, hge, ha, hb']; done
             · simp [aCts, aCos, hge, ha, hb']; rfl
             · first | (simp [aCts, aCos, hge, ha, hb']; done) | (simp [aCts, aCos, hge, ha, hb']; omega) | (simp [aCts, aCos, hge, ha, hb', rowsOf]; omega) | skip)
          | (refine regv_skip (s1 := ?_) ?_ ?_ ?_
             rotate_left
             · simp [aCts, aCos, hge, ha, hb']; done
             · simp [aCts, aCos, hge, ha, hb']; rfl)
        first
          | (refine regv_pure (s1 := ?_) rfl ?_ ?_ ?_ ?_
             rotate_left
             · simp [aCts, aCos, hge, ha, hb']; done
             · simp [aCts, aCos, hge, ha, hb']; rfl
             · first | (simp [aCts, aCos, hge, ha, hb']; done) | (simp [aCts, aCos, hge, ha, hb']; omega) | (simp [aCts, aCos, hge, ha, hb', rowsOf]; omega) | skip)
          | (refine regv_skip (s1 := ?_) ?_ ?_ ?_
             rotate_left
             · simp [aCts, aCos, hge, ha, hb']; done
             · simp [aCts, aCos, hge, ha, hb']; rfl)
        first
          | (refine regv_pure (s1 := ?_) rfl ?_ ?_ ?_ ?_
             rotate_left
             · simp [aCts, aCos, hge, ha, hb']; done
             · simp [aCts, aCos, hge, ha, hb']; rfl
             · first | (simp [aCts, aCos, hge, ha, hb']; done) | (simp [aCts, aCos, hge, ha, hb']; omega) | (simp [aCts, aCos, hge, ha, hb', rowsOf]; omega) | skip)
          | (refine regv_skip (s1 := ?_) ?_ ?_ ?_
             rotate_left
             · simp [aCts, aCos, hge, ha, hb']; done
             · simp [aCts, aCos, hge, ha, hb']; rfl)
        first
          | (refine regv_pure (s1 := ?_) rfl ?_ ?_ ?_ ?_
             rotate_left
             · simp [aCts, aCos, hge, ha, hb']; done
             · simp [aCts, aCos, hge, ha, hb']; rfl
             · first | (simp [aCts, aCos, hge, ha, hb']; done) | (simp [aCts, aCos, hge, ha, hb']; omega) | (simp [aCts, aCos, hge, ha, hb', rowsOf]; omega) | skip)
          | (refine regv_skip (s1 := ?_) ?_ ?_ ?_
             rotate_left
             · simp [aCts, aCos, hge, ha, hb']; done
             · simp [aCts, aCos, hge, ha, hb']; rfl)
        iterate 1
          refine regv_pure (s1 := ?_) rfl rfl ?_ ?_ ?_
          rotate_left
          · simp [aCts, aCos, hge, ha, hb']; rfl
          · first | (simp [aCts, aCos, hge, ha, hb']; done) | (simp [aCts, aCos, hge, ha, hb']; omega) | (simp [aCts, aCos, hge, ha, hb', rowsOf]; omega) | skip
        refine regv_nil ?_
        refine Wp.cond true rfl (fun _ => ?_) (fun h => by cases h)
        refine Wp.reg_seq (own := fun _ => false) tt_ok ?_
        iterate 1
          refine regv_pure (s1 := ?_) rfl rfl ?_ ?_ ?_
          rotate_left
          · simp [aCts, aCos, hge, ha, hb']; rfl
          · first | (simp [aCts, aCos, hge, ha, hb']; done) | (simp [aCts, aCos, hge, ha, hb']; omega) | (simp [aCts, aCos, hge, ha, hb', rowsOf]; omega) | skip
        refine regv_nil ?_
        refine Wp.ret (endQ_ret0 rfl ?_)
        exact .eq (by simp [tooS, hspec, ha, hb]) rfl
      ·
        have hb' : ¬ (60 : Int) < cs.length := by omega
        refine Wp.reg_seq (own := fun _ => false) tt_ok ?_
        iterate 1
          refine regv_pure (s1 := ?_) rfl rfl ?_ ?_ ?_
          rotate_left
          · simp [aCts, aCos, hge, ha, hb']; rfl
          · first | (simp [aCts, aCos, hge, ha, hb']; done) | (simp [aCts, aCos, hge, ha, hb']; omega) | (simp [aCts, aCos, hge, ha, hb', rowsOf]; omega) | skip
        refine regv_nil ?_
        refine Wp.seq ?_
        refine Wp.cond false rfl (fun h => by cases h) (fun _ => ?_)
        refine Wp.exit ?_
        show Wp _ _ _ _
        refine Wp.seq ?_
        refine Wp.reg_seq (own := fun _ => false) tt_ok ?_
        iterate 3
          refine regv_pure (s1 := ?_) rfl rfl ?_ ?_ ?_
          rotate_left
          · simp [aCts, aCos, hge, ha, hb']; rfl
          · first | (simp [aCts, aCos, hge, ha, hb']; done) | (simp [aCts, aCos, hge, ha, hb']; omega) | (simp [aCts, aCos, hge, ha, hb', rowsOf]; omega) | skip
        first
          | (refine regv_pure (s1 := ?_) rfl ?_ ?_ ?_ ?_
             rotate_left
             · simp [aCts, aCos, hge, ha, hb']; done
             · simp [aCts, aCos, hge, ha, hb']; rfl
             · first | (simp [aCts, aCos, hge, ha, hb']; done) | (simp [aCts, aCos, hge, ha, hb']; omega) | (simp [aCts, aCos, hge, ha, hb', rowsOf]; omega) | skip)
          | (refine regv_skip (s1 := ?_) ?_ ?_ ?_
             rotate_left
             · simp [aCts, aCos, hge, ha, hb']; done
             · simp [aCts, aCos, hge, ha, hb']; rfl)
        first
          | (refine regv_pure (s1 := ?_) rfl ?_ ?_ ?_ ?_
             rotate_left
             · simp [aCts, aCos, hge, ha, hb']; done
             · simp [aCts, aCos, hge, ha, hb']; rfl
             · first | (simp [aCts, aCos, hge, ha, hb']; done) | (simp [aCts, aCos, hge, ha, hb']; omega) | (simp [aCts, aCos, hge, ha, hb', rowsOf]; omega) | skip)
          | (refine regv_skip (s1 := ?_) ?_ ?_ ?_
             rotate_left
             · simp [aCts, aCos, hge, ha, hb']; done
             · simp [aCts, aCos, hge, ha, hb']; rfl)
        first
          | (refine regv_pure (s1 := ?_) rfl ?_ ?_ ?_ ?_
             rotate_left
             · simp [aCts, aCos, hge, ha, hb']; done
             · simp [aCts, aCos, hge, ha, hb']; rfl
             · first | (simp [aCts, aCos, hge, ha, hb']; done) | (simp [aCts, aCos, hge, ha, hb']; omega) | (simp [aCts, aCos, hge, ha, hb', rowsOf]; omega) | skip)
          | (refine regv_skip (s1 := ?_) ?_ ?_ ?_
             rotate_left
             · simp [aCts, aCos, hge, ha, hb']; done
             · simp [aCts, aCos, hge, ha, hb']; rfl)
        first
          | (refine regv_pure (s1 := ?_) rfl ?_ ?_ ?_ ?_
             rotate_left
             · simp [aCts, aCos, hge, ha, hb']; done
             · simp [aCts, aCos, hge, ha, hb']; rfl
             · first | (simp [aCts, aCos, hge, ha, hb']; done) | (simp [aCts, aCos, hge, ha, hb']; omega) | (simp [aCts, aCos, hge, ha, hb', rowsOf]; omega) | skip)
          | (refine regv_skip (s1 := ?_) ?_ ?_ ?_
             rotate_left
             · simp [aCts, aCos, hge, ha, hb']; done
             · simp [aCts, aCos, hge, ha, hb']; rfl)
        iterate 1
          refine regv_pure (s1 := ?_) rfl rfl ?_ ?_ ?_
          rotate_left
          · simp [aCts, aCos, hge, ha, hb']; rfl
          · first | (simp [aCts, aCos, hge, ha, hb']; done) | (simp [aCts, aCos, hge, ha, hb']; omega) | (simp [aCts, aCos, hge, ha, hb', rowsOf]; omega) | skip
        refine regv_nil ?_
        refine Wp.cond false rfl (fun h => by cases h) (fun _ => ?_)
        refine Wp.skip ?_
        show Wp _ _ _ _
        refine Wp.reg_seq (own := fun _ => false) tt_ok ?_
        iterate 1
          refine regv_pure (s1 := ?_) rfl rfl ?_ ?_ ?_
          rotate_left
          · simp [aCts, aCos, hge, ha, hb']; rfl
          · first | (simp [aCts, aCos, hge, ha, hb']; done) | (simp [aCts, aCos, hge, ha, hb']; omega) | (simp [aCts, aCos, hge, ha, hb', rowsOf]; omega) | skip
        refine regv_nil ?_
        refine Wp.ret (endQ_ret0 rfl ?_)
        exact .eq (by simp [tooS, hspec, ha, hb]) rfl

end Go.Proofs.Ytgbgmijighbfbaa

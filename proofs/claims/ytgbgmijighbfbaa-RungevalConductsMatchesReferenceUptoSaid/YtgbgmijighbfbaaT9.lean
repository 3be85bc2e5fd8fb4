/- The contracts of Scan and TooLarge. -/
import Derived.Test.YtgbgmijighbfbaaT8
set_option linter.unusedSimpArgs false
set_option linter.unusedVariables false
namespace Go.Proofs.Ytgbgmijighbfbaa
open Go.Av
attribute [local simp] runf guardA opf St.ev Go.Av.look St.setd constAV constAV0 opBin opLen intBin St.need lookT TT0 tab resA resOne resAll blt_dec ble_dec beq_dec isPure
attribute [local simp] opMakeSlice opCopy opIndexAddr opLoad opStore St.mem St.rows opUn calleeA toArgs toArg toArg0 toArgs0 shift shift0 shift1 splice cellsOf isFree ofCells TS.isAgg isCell
attribute [local simp] aBools aState opBuildSlice fillA opAppend St.newBox runI valKind withinB readsHp refsD refs noSl opFieldAddr opBuild placeOf Op.operands Call.operands opIndex opExtract opSlice opField partA
attribute [local congr] bind_congr1 map_congr1 cond_congr1
attribute [local simp] aAddr aSta
set_option maxHeartbeats 4000000
set_option linter.unusedSimpArgs false

theorem contactsS_len (ins q m : List Bool) : ∀ (cs : List Ct) (i : Nat) (slot : Int) (e on : List Bool), (contactsS ins q m cs i slot e on).2 = 0 →
    (contactsS ins q m cs i slot e on).1.1.length = on.length ∧ (contactsS ins q m cs i slot e on).1.2.length = e.length
  | [], i, slot, e, on, _ => ⟨rfl, rfl⟩
  | c :: cs, i, slot, e, on, h => by
    simp only [contactsS] at h ⊢
    split at h
    · simp at h
    · rename_i h1
      rw [if_neg h1]
      split at h
      · rename_i h2; exact absurd h h2
      · rename_i h2
        rw [if_neg h2]
        split at h
        · rename_i h3
          rw [if_pos h3]
          split at h
          · simp at h
          · rename_i h4
            rw [if_neg h4]
            have := contactsS_len ins q m cs _ _ _ _ h
            simpa using this
        · rename_i h3
          rw [if_neg h3]
          have := contactsS_len ins q m cs _ _ _ _ h
          simpa using this

noncomputable def scanS (ins : List Bool) (cs : List Ct) (os : List Co) (slot : Int) (s : S3) : S3 × Bool × Int :=
  if (contactsS ins s.1 s.2.1 cs 0 slot s.2.2 (List.replicate cs.length false)).2 ≠ 0 then (([], [], []), false, (contactsS ins s.1 s.2.1 cs 0 slot s.2.2 (List.replicate cs.length false)).2)
  else
    if (coilsS (reachB cs (contactsS ins s.1 s.2.1 cs 0 slot s.2.2 (List.replicate cs.length false)).1.1) os (s.1, s.2.1, (contactsS ins s.1 s.2.1 cs 0 slot s.2.2 (List.replicate cs.length false)).1.2)).2 ≠ 0 then
      (([], [], []), false, (coilsS (reachB cs (contactsS ins s.1 s.2.1 cs 0 slot s.2.2 (List.replicate cs.length false)).1.1) os (s.1, s.2.1, (contactsS ins s.1 s.2.1 cs 0 slot s.2.2 (List.replicate cs.length false)).1.2)).2)
    else ((coilsS (reachB cs (contactsS ins s.1 s.2.1 cs 0 slot s.2.2 (List.replicate cs.length false)).1.1) os (s.1, s.2.1, (contactsS ins s.1 s.2.1 cs 0 slot s.2.2 (List.replicate cs.length false)).1.2)).1,
      reachB cs (contactsS ins s.1 s.2.1 cs 0 slot s.2.2 (List.replicate cs.length false)).1.1, 0)

theorem scan_con (lab j : ByteArray) (cs : List Ct) (os : List Co) (ins q m e : List Bool) (slot : Int) (hcs : cs.length ≤ 1000000) (hos : os.length ≤ 1000000) (hq : q.length ≤ 1000000) (hm : m.length ≤ 1000000) (he : e.length ≤ 1000000) (hsl0 : slot ≤ 4611686018427387904) :
    Con Try.prog 16 [aRung lab cs os j, aBools ins, aState q m e, .int .i64 slot]
      (.tup [aSta (scanS ins cs os slot (q, m, e)).1, .bool (scanS ins cs os slot (q, m, e)).2.1, .int .i64 (scanS ins cs os slot (q, m, e)).2.2]) [] := by
  have hct := contacts_con lab j cs os ins q m e slot hcs hq hm he hsl0
  have hlen := contactsS_len ins q m cs 0 slot e (List.replicate cs.length false)
  unfold scanS
  simp only
  generalize contactsS ins q m cs 0 slot e (List.replicate cs.length false) = r at hct hlen ⊢
  obtain ⟨⟨onl, e'⟩, er⟩ := r
  simp only at hct hlen ⊢
  by_cases h1 : er = 0
  · subst h1
    rw [if_pos rfl] at hct
    rw [if_neg (by simp)]
    obtain ⟨hl1, hl2⟩ := hlen rfl
    have hl1' : onl.length = cs.length := by simpa using hl1
    have hcd := conducts_con lab j cs os onl hcs
    rw [if_pos hl1', if_pos hl1'] at hcd
    have hco := coils_con lab j cs os q m e' (reachB cs onl) hos hq hm (by omega)
    generalize reachB cs onl = on at hcd hco ⊢
    generalize coilsS on os (q, m, e') = r3 at hco ⊢
    obtain ⟨⟨q3, m3, e3⟩, er3⟩ := r3
    simp only at hco ⊢
    by_cases h3 : er3 = 0
    · subst h3
      rw [if_neg (by simp)]
      refine con_of (T := TT0) tt_ok Try.func16 (c := _) (by unfold Try.f16; rfl) Try.ntmps16 (rs := [.cell 8 36, .tmp 9, .tmp 10]) (by rw [Try.results16]) (by unfold Try.f16; rfl) (by simp) ?_
      simp only [argsCh, aRung, aState, aBools, aSta]
      refine Wp.reg_seq (own := fun _ => false) tt_ok ?_
      iterate 5
        refine regv_pure (s1 := ?_) rfl rfl ?_ ?_ ?_
        rotate_left
        · simp [aCts, aCos]; rfl
        · first | (simp [aCts, aCos]; done) | (simp [aCts, aCos]; omega) | (simp [aCts, aCos, rowsOf]; omega) | skip
      refine regv_nil ?_
      refine Wp.reg_seq (own := fun _ => false) tt_ok ?_
      iterate 4
        refine regv_pure (s1 := ?_) rfl rfl ?_ ?_ ?_
        rotate_left
        · simp [aCts, aCos]; rfl
        · first | (simp [aCts, aCos]; done) | (simp [aCts, aCos]; omega) | (simp [aCts, aCos, rowsOf]; omega) | skip
      refine regv_call (s' := ?_) (hct) rfl rfl rfl rfl rfl ?_ ?_ ?_ ?_
      rotate_left 1
      · first | (simp [aCts, aCos]; done) | (simp [aCts, aCos]; omega) | (simp [aCts, aCos, rowsOf]; omega) | skip
      · simp
      · simp [aCts, aCos]; rfl
      iterate 8
        refine regv_pure (s1 := ?_) rfl rfl ?_ ?_ ?_
        rotate_left
        · simp [aCts, aCos]; rfl
        · first | (simp [aCts, aCos]; done) | (simp [aCts, aCos]; omega) | (simp [aCts, aCos, rowsOf]; omega) | skip
      refine regv_nil ?_
      refine Wp.seq ?_
      refine Wp.reg_seq (own := fun _ => false) tt_ok ?_
      iterate 2
        refine regv_pure (s1 := ?_) rfl rfl ?_ ?_ ?_
        rotate_left
        · simp [aCts, aCos]; rfl
        · first | (simp [aCts, aCos]; done) | (simp [aCts, aCos]; omega) | (simp [aCts, aCos, rowsOf]; omega) | skip
      refine regv_nil ?_
      refine Wp.cond false rfl (fun h => by cases h) (fun _ => ?_)
      refine Wp.skip ?_
      show Wp _ _ _ _
      refine Wp.reg_seq (own := fun _ => false) tt_ok ?_
      iterate 2
        refine regv_pure (s1 := ?_) rfl rfl ?_ ?_ ?_
        rotate_left
        · simp [aCts, aCos]; rfl
        · first | (simp [aCts, aCos]; done) | (simp [aCts, aCos]; omega) | (simp [aCts, aCos, rowsOf]; omega) | skip
      refine regv_call (s' := ?_) (hcd) rfl rfl rfl rfl rfl ?_ ?_ ?_ ?_
      rotate_left 1
      · first | (simp [aCts, aCos]; done) | (simp [aCts, aCos]; omega) | (simp [aCts, aCos, rowsOf]; omega) | skip
      · simp
      · simp [aCts, aCos]; rfl
      iterate 5
        refine regv_pure (s1 := ?_) rfl rfl ?_ ?_ ?_
        rotate_left
        · simp [aCts, aCos]; rfl
        · first | (simp [aCts, aCos]; done) | (simp [aCts, aCos]; omega) | (simp [aCts, aCos, rowsOf]; omega) | skip
      refine regv_nil ?_
      refine Wp.seq ?_
      refine Wp.reg_seq (own := fun _ => false) tt_ok ?_
      iterate 2
        refine regv_pure (s1 := ?_) rfl rfl ?_ ?_ ?_
        rotate_left
        · simp [aCts, aCos]; rfl
        · first | (simp [aCts, aCos]; done) | (simp [aCts, aCos]; omega) | (simp [aCts, aCos, rowsOf]; omega) | skip
      refine regv_nil ?_
      refine Wp.cond false rfl (fun h => by cases h) (fun _ => ?_)
      refine Wp.skip ?_
      show Wp _ _ _ _
      refine Wp.reg_seq (own := fun _ => false) tt_ok ?_
      iterate 3
        refine regv_pure (s1 := ?_) rfl rfl ?_ ?_ ?_
        rotate_left
        · simp [aCts, aCos]; rfl
        · first | (simp [aCts, aCos]; done) | (simp [aCts, aCos]; omega) | (simp [aCts, aCos, rowsOf]; omega) | skip
      refine regv_call (s' := ?_) (hco) rfl rfl rfl rfl rfl ?_ ?_ ?_ ?_
      rotate_left 1
      · first | (simp [aCts, aCos]; done) | (simp [aCts, aCos]; omega) | (simp [aCts, aCos, rowsOf]; omega) | skip
      · simp
      · simp [aCts, aCos]; rfl
      iterate 6
        refine regv_pure (s1 := ?_) rfl rfl ?_ ?_ ?_
        rotate_left
        · simp [aCts, aCos]; rfl
        · first | (simp [aCts, aCos]; done) | (simp [aCts, aCos]; omega) | (simp [aCts, aCos, rowsOf]; omega) | skip
      refine regv_nil ?_
      refine Wp.seq ?_
      refine Wp.reg_seq (own := fun _ => false) tt_ok ?_
      iterate 2
        refine regv_pure (s1 := ?_) rfl rfl ?_ ?_ ?_
        rotate_left
        · simp [aCts, aCos]; rfl
        · first | (simp [aCts, aCos]; done) | (simp [aCts, aCos]; omega) | (simp [aCts, aCos, rowsOf]; omega) | skip
      refine regv_nil ?_
      refine Wp.cond false rfl (fun h => by cases h) (fun _ => ?_)
      refine Wp.skip ?_
      show Wp _ _ _ _
      refine Wp.reg_seq (own := fun _ => false) tt_ok ?_
      iterate 5
        refine regv_pure (s1 := ?_) rfl rfl ?_ ?_ ?_
        rotate_left
        · simp [aCts, aCos]; rfl
        · first | (simp [aCts, aCos]; done) | (simp [aCts, aCos]; omega) | (simp [aCts, aCos, rowsOf]; omega) | skip
      refine regv_nil ?_
      refine Wp.ret (endQ_ret0 rfl ?_)
      exact .tups (.cons (.aggs (.cons (.refl _ rfl) (.cons (.refl _ rfl) (.cons (.refl _ rfl) .nil)))) (.cons (.refl _ rfl) (.cons (.refl _ rfl) .nil)))
    · rw [if_pos h3]
      have h3' : (er3 != 0) = true := by simp [h3]
      refine con_of (T := TT0) tt_ok Try.func16 (c := _) (by unfold Try.f16; rfl) Try.ntmps16 (rs := [.cell 8 36, .tmp 9, .tmp 10]) (by rw [Try.results16]) (by unfold Try.f16; rfl) (by simp) ?_
      simp only [argsCh, aRung, aState, aBools, aSta]
      refine Wp.reg_seq (own := fun _ => false) tt_ok ?_
      iterate 5
        refine regv_pure (s1 := ?_) rfl rfl ?_ ?_ ?_
        rotate_left
        · simp [aCts, aCos, h3']; rfl
        · first | (simp [aCts, aCos, h3']; done) | (simp [aCts, aCos, h3']; omega) | (simp [aCts, aCos, h3', rowsOf]; omega) | skip
      refine regv_nil ?_
      refine Wp.reg_seq (own := fun _ => false) tt_ok ?_
      iterate 4
        refine regv_pure (s1 := ?_) rfl rfl ?_ ?_ ?_
        rotate_left
        · simp [aCts, aCos, h3']; rfl
        · first | (simp [aCts, aCos, h3']; done) | (simp [aCts, aCos, h3']; omega) | (simp [aCts, aCos, h3', rowsOf]; omega) | skip
      refine regv_call (s' := ?_) (hct) rfl rfl rfl rfl rfl ?_ ?_ ?_ ?_
      rotate_left 1
      · first | (simp [aCts, aCos, h3']; done) | (simp [aCts, aCos, h3']; omega) | (simp [aCts, aCos, h3', rowsOf]; omega) | skip
      · simp
      · simp [aCts, aCos, h3']; rfl
      iterate 8
        refine regv_pure (s1 := ?_) rfl rfl ?_ ?_ ?_
        rotate_left
        · simp [aCts, aCos, h3']; rfl
        · first | (simp [aCts, aCos, h3']; done) | (simp [aCts, aCos, h3']; omega) | (simp [aCts, aCos, h3', rowsOf]; omega) | skip
      refine regv_nil ?_
      refine Wp.seq ?_
      refine Wp.reg_seq (own := fun _ => false) tt_ok ?_
      iterate 2
        refine regv_pure (s1 := ?_) rfl rfl ?_ ?_ ?_
        rotate_left
        · simp [aCts, aCos, h3']; rfl
        · first | (simp [aCts, aCos, h3']; done) | (simp [aCts, aCos, h3']; omega) | (simp [aCts, aCos, h3', rowsOf]; omega) | skip
      refine regv_nil ?_
      refine Wp.cond false rfl (fun h => by cases h) (fun _ => ?_)
      refine Wp.skip ?_
      show Wp _ _ _ _
      refine Wp.reg_seq (own := fun _ => false) tt_ok ?_
      iterate 2
        refine regv_pure (s1 := ?_) rfl rfl ?_ ?_ ?_
        rotate_left
        · simp [aCts, aCos, h3']; rfl
        · first | (simp [aCts, aCos, h3']; done) | (simp [aCts, aCos, h3']; omega) | (simp [aCts, aCos, h3', rowsOf]; omega) | skip
      refine regv_call (s' := ?_) (hcd) rfl rfl rfl rfl rfl ?_ ?_ ?_ ?_
      rotate_left 1
      · first | (simp [aCts, aCos, h3']; done) | (simp [aCts, aCos, h3']; omega) | (simp [aCts, aCos, h3', rowsOf]; omega) | skip
      · simp
      · simp [aCts, aCos, h3']; rfl
      iterate 5
        refine regv_pure (s1 := ?_) rfl rfl ?_ ?_ ?_
        rotate_left
        · simp [aCts, aCos, h3']; rfl
        · first | (simp [aCts, aCos, h3']; done) | (simp [aCts, aCos, h3']; omega) | (simp [aCts, aCos, h3', rowsOf]; omega) | skip
      refine regv_nil ?_
      refine Wp.seq ?_
      refine Wp.reg_seq (own := fun _ => false) tt_ok ?_
      iterate 2
        refine regv_pure (s1 := ?_) rfl rfl ?_ ?_ ?_
        rotate_left
        · simp [aCts, aCos, h3']; rfl
        · first | (simp [aCts, aCos, h3']; done) | (simp [aCts, aCos, h3']; omega) | (simp [aCts, aCos, h3', rowsOf]; omega) | skip
      refine regv_nil ?_
      refine Wp.cond false rfl (fun h => by cases h) (fun _ => ?_)
      refine Wp.skip ?_
      show Wp _ _ _ _
      refine Wp.reg_seq (own := fun _ => false) tt_ok ?_
      iterate 3
        refine regv_pure (s1 := ?_) rfl rfl ?_ ?_ ?_
        rotate_left
        · simp [aCts, aCos, h3']; rfl
        · first | (simp [aCts, aCos, h3']; done) | (simp [aCts, aCos, h3']; omega) | (simp [aCts, aCos, h3', rowsOf]; omega) | skip
      refine regv_call (s' := ?_) (hco) rfl rfl rfl rfl rfl ?_ ?_ ?_ ?_
      rotate_left 1
      · first | (simp [aCts, aCos, h3']; done) | (simp [aCts, aCos, h3']; omega) | (simp [aCts, aCos, h3', rowsOf]; omega) | skip
      · simp
      · simp [aCts, aCos, h3']; rfl
      iterate 6
        refine regv_pure (s1 := ?_) rfl rfl ?_ ?_ ?_
        rotate_left
        · simp [aCts, aCos, h3']; rfl
        · first | (simp [aCts, aCos, h3']; done) | (simp [aCts, aCos, h3']; omega) | (simp [aCts, aCos, h3', rowsOf]; omega) | skip
      refine regv_nil ?_
      refine Wp.seq ?_
      refine Wp.reg_seq (own := fun _ => false) tt_ok ?_
      iterate 2
        refine regv_pure (s1 := ?_) rfl rfl ?_ ?_ ?_
        rotate_left
        · simp [aCts, aCos, h3']; rfl
        · first | (simp [aCts, aCos, h3']; done) | (simp [aCts, aCos, h3']; omega) | (simp [aCts, aCos, h3', rowsOf]; omega) | skip
      refine regv_nil ?_
      refine Wp.cond true rfl (fun _ => ?_) (fun h => by cases h)
      refine Wp.reg_seq (own := fun _ => false) tt_ok ?_
      iterate 5
        refine regv_pure (s1 := ?_) rfl rfl ?_ ?_ ?_
        rotate_left
        · simp [aCts, aCos, h3']; rfl
        · first | (simp [aCts, aCos, h3']; done) | (simp [aCts, aCos, h3']; omega) | (simp [aCts, aCos, h3', rowsOf]; omega) | skip
      refine regv_nil ?_
      refine Wp.ret (endQ_ret0 rfl ?_)
      exact .tups (.cons (.aggs (.cons (.nil _) (.cons (.nil _) (.cons (.nil _) .nil)))) (.cons (.refl _ rfl) (.cons (.refl _ rfl) .nil)))
  · rw [if_pos h1]
    rw [if_neg h1] at hct
    have h1' : (er != 0) = true := by simp [h1]
    refine con_of (T := TT0) tt_ok Try.func16 (c := _) (by unfold Try.f16; rfl) Try.ntmps16 (rs := [.cell 8 36, .tmp 9, .tmp 10]) (by rw [Try.results16]) (by unfold Try.f16; rfl) (by simp) ?_
    simp only [argsCh, aRung, aState, aBools, aSta]
    refine Wp.reg_seq (own := fun _ => false) tt_ok ?_
    iterate 5
      refine regv_pure (s1 := ?_) rfl rfl ?_ ?_ ?_
      rotate_left
      · simp [aCts, aCos, h1']; rfl
      · first | (simp [aCts, aCos, h1']; done) | (simp [aCts, aCos, h1']; omega) | (simp [aCts, aCos, h1', rowsOf]; omega) | skip
    refine regv_nil ?_
    refine Wp.reg_seq (own := fun _ => false) tt_ok ?_
    iterate 4
      refine regv_pure (s1 := ?_) rfl rfl ?_ ?_ ?_
      rotate_left
      · simp [aCts, aCos, h1']; rfl
      · first | (simp [aCts, aCos, h1']; done) | (simp [aCts, aCos, h1']; omega) | (simp [aCts, aCos, h1', rowsOf]; omega) | skip
    refine regv_call (s' := ?_) (hct) rfl rfl rfl rfl rfl ?_ ?_ ?_ ?_
    rotate_left 1
    · first | (simp [aCts, aCos, h1']; done) | (simp [aCts, aCos, h1']; omega) | (simp [aCts, aCos, h1', rowsOf]; omega) | skip
    · simp
    · simp [aCts, aCos, h1']; rfl
    iterate 8
      refine regv_pure (s1 := ?_) rfl rfl ?_ ?_ ?_
      rotate_left
      · simp [aCts, aCos, h1']; rfl
      · first | (simp [aCts, aCos, h1']; done) | (simp [aCts, aCos, h1']; omega) | (simp [aCts, aCos, h1', rowsOf]; omega) | skip
    refine regv_nil ?_
    refine Wp.seq ?_
    refine Wp.reg_seq (own := fun _ => false) tt_ok ?_
    iterate 2
      refine regv_pure (s1 := ?_) rfl rfl ?_ ?_ ?_
      rotate_left
      · simp [aCts, aCos, h1']; rfl
      · first | (simp [aCts, aCos, h1']; done) | (simp [aCts, aCos, h1']; omega) | (simp [aCts, aCos, h1', rowsOf]; omega) | skip
    refine regv_nil ?_
    refine Wp.cond true rfl (fun _ => ?_) (fun h => by cases h)
    refine Wp.reg_seq (own := fun _ => false) tt_ok ?_
    iterate 5
      refine regv_pure (s1 := ?_) rfl rfl ?_ ?_ ?_
      rotate_left
      · simp [aCts, aCos, h1']; rfl
      · first | (simp [aCts, aCos, h1']; done) | (simp [aCts, aCos, h1']; omega) | (simp [aCts, aCos, h1', rowsOf]; omega) | skip
    refine regv_nil ?_
    refine Wp.ret (endQ_ret0 rfl ?_)
    exact .tups (.cons (.aggs (.cons (.nil _) (.cons (.nil _) (.cons (.nil _) .nil)))) (.cons (.refl _ rfl) (.cons (.refl _ rfl) .nil)))

end Go.Proofs.Ytgbgmijighbfbaa

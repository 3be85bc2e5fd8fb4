/- Contracts: models of functions are right. No law is proved here. -/
import Derived.Test.YtgbgmijighbfbaaGC1
namespace Go.Proofs.Ytgbgmijighbfbaa
open Go.Av Go.G
attribute [local simp] runf guardA opf St.ev Go.Av.look St.setd constAV constAV0 opBin opLen intBin St.need lookT TT0 tab resA resOne resAll blt_dec ble_dec beq_dec isPure
attribute [local simp] opMakeSlice opCopy opIndexAddr opLoad opStore St.mem St.rows opUn calleeA toArgs toArg toArg0 toArgs0 shift shift0 shift1 splice cellsOf isFree ofCells TS.isAgg isCell strBin opConvert
attribute [local simp] opBuildSlice fillA opAppend eqC eqA cksB ckB St.newBox runI valKind withinB readsHp refsD refs noSl opFieldAddr opBuild placeOf Op.operands Call.operands opIndex opExtract opSlice opField partA
attribute [local simp] loA hiA lenA opMakeMap opLookup opMapUpdate keyOk findA_int findA_str putA_strB putA_strI putA_intB putA_intI mAV_length mAV_nil cA1 cA2 cA3 cA4
attribute [local simp] aL cI cB cS cL rw_map fz_rw fz_const dropRow_rw fz_append fz_set fz_copy fz_rows rowLen_rw rowsLen_nil rowsLen_cons rowsLen_append rowsLen_map rowsLen_take rowsLen_drop rowsLen_replicate take_map_len take_map_le drop_map_len take_drop_len chunks isScalar isScalar0
attribute [local congr] bind_congr1 map_congr1 cond_congr1
attribute [local simp] cApiAddr cApiContact cApiCoil cApiRung cApiState findA_ApiAddr putA_ApiAddr putA_ApiAddrB putA_ApiAddrI
set_option maxHeartbeats 4000000
set_option maxRecDepth 20000
set_option linter.unusedSimpArgs false
set_option linter.unusedVariables false

theorem con_law16_RungevalSlotOffset {n : Nat} {_append0 : ApiRung} {a1 : List Bool} {a2 : ApiState} {r : Bool} (h : law16_RungevalSlotOffset n _append0 a1 a2 = some r) : Con Try.prog 9 [.agg (cApiRung _append0), aL cB a1, .agg (cApiState a2)] (.bool r) [] := by
  refine con_of (T := TT0) tt_ok Try.func9 (c := _) (by unfold Try.f9; rfl) Try.ntmps9 (rs := [.tmp 6]) (by rw [Try.results9]) (by unfold Try.f9; rfl) (by simp) ?_
  simp only [argsCh]
  dsimp only [law16_RungevalSlotOffset] at h
  refine Wp.reg_seq (own := fun _ => false) tt_ok ?_
  iterate 3
    refine regv_pure (s1 := ?_) rfl rfl ?_ ?_ ?_
    rotate_left
    · simp []; rfl
    · first | (simp [] <;> omega) | skip
  refine regv_nil ?_
  refine Wp.seq ?_
  refine Wp.reg_seq (own := fun _ => false) tt_ok ?_
  iterate 3
    refine regv_pure (s1 := ?_) rfl rfl ?_ ?_ ?_
    rotate_left
    · simp []; rfl
    · first | (simp [] <;> omega) | skip
  obtain ⟨bz, cb, h⟩ := obind h
  refine regv_call2 (s' := ?_) (p := ?_) (con_law16_tooLarge cb) rfl rfl rfl rfl ?_ ?_ ?_ ?_ ?_ ?_
  rotate_left 2
  · simp []; rfl
  · first | exact .inl rfl | (refine .inl ?_; simp []; done) | (refine .inr ?_; dsimp only; repeat' first | exact All2.nil | refine All2.cons ?_ ?_ | exact AvLe.refl _ rfl | refine AvLe.aggs ?_) <;> first | exact AvLe.refl _ rfl | exact AvLe.nil _ | exact AvLe.znil _ | exact AvLe.list' (by first | (simp [] <;> omega)) (by simp []; done) | exact AvLe.eq (by simp []; done) rfl
  · first | (simp [] <;> omega) | skip
  · simp
  · simp []; rfl
  refine regv_nil ?_
  refine (Bool.eq_false_or_eq_true bz).symm.elim (fun k => ?_) (fun k => ?_)
  · rw [if_neg (by rw [k]; simp)] at h
    refine Wp.cond false (by first | (simp [k] <;> omega) | (have hq := k; simp at hq; simp [k, hq]; done)) (fun h0 => absurd h0 (by decide)) (fun _ => ?_)
    refine Wp.skip ?_
    show Wp _ _ _ _
    refine Wp.reg_seq (own := fun _ => false) tt_ok ?_
    iterate 3
      refine regv_pure (s1 := ?_) rfl rfl ?_ ?_ ?_
      rotate_left
      · simp [k]; rfl
      · first | (simp [k] <;> omega) | (have hq := k; simp at hq; simp [k, hq]; done) | skip
    refine regv_nil ?_
    refine Wp.reg_seq (own := fun _ => false) tt_ok ?_
    iterate 3
      refine regv_pure (s1 := ?_) rfl rfl ?_ ?_ ?_
      rotate_left
      · simp [k]; rfl
      · first | (simp [k] <;> omega) | (have hq := k; simp at hq; simp [k, hq]; done) | skip
    obtain ⟨⟨bk, bi, bj⟩, cc, h⟩ := obind h
    dsimp only at h
    refine regv_call2 (s' := ?_) (p := ?_) (con_rungeval_Contacts cc) rfl rfl rfl rfl ?_ ?_ ?_ ?_ ?_ ?_
    rotate_left 2
    · simp [k]; rfl
    · first | exact .inl rfl | (refine .inl ?_; simp [k]; done) | (refine .inr ?_; dsimp only; repeat' first | exact All2.nil | refine All2.cons ?_ ?_ | exact AvLe.refl _ rfl | refine AvLe.aggs ?_) <;> first | exact AvLe.refl _ rfl | exact AvLe.nil _ | exact AvLe.znil _ | exact AvLe.list' (by first | (simp [k] <;> omega)) (by simp [k]; done) | exact AvLe.eq (by simp [k]; done) rfl
    · first | (simp [k] <;> omega) | (have hq := k; simp at hq; simp [k, hq]; done) | skip
    · simp
    · simp [k]; rfl
    iterate 8
      refine regv_pure (s1 := ?_) rfl rfl ?_ ?_ ?_
      rotate_left
      · simp [k]; rfl
      · first | (simp [k] <;> omega) | (have hq := k; simp at hq; simp [k, hq]; done) | skip
    refine regv_nil ?_
    refine Wp.reloc (s' := { ch := [(1, aL cB a1), (3, .hptr 0 0 0), (5, .hptr 1 0 0), (6, .bool false), (7, .int .i64 (a1.length : Int)), (8, aL cB bk), (9, .hptr 2 0 0), (10, .int .i64 bj), (17, aL cB a1), (19, .bool bz), (21, aL cB a1), (22, .int .i64 (a1.length : Int)), (25, aL cB a1), (28, aL cB bk), (30, .int .i64 bj)], hp := [.var [.str _append0.Label, aL cApiContact _append0.Contacts, aL cApiCoil _append0.Coils, .str _append0.Jump], .var [aL cB a2.Q, aL cB a2.M, aL cB a2.E], .var [aL cB bi.Q, aL cB bi.M, aL cB bi.E], .slot], base := 0, n := 136, cond := True }) ?_ ?_
    · refine Reloc.mk2 [some 0, some 1, some 2, none] rfl rfl rfl (by decide) ?_ ?_
      · repeat' first | exact objsLe_nil | refine objsLe_cons ?_ ?_
        all_goals first
          | exact trivial
          | (refine ObjLe.var' rfl rfl ?_ rfl
             repeat' first | exact All2.nil | refine All2.cons ?_ ?_
             all_goals first | (exact AvLe.refl _ rfl) | (exact AvLe.sl _ _ _ _ rfl) | (exact AvLe.hptr _ _ _ _ rfl) | (exact AvLe.mp _ _ rfl) | (exact AvLe.nil _) | (exact AvLe.znil _) | (exact AvLe.ghost _ rfl) | (exact AvLe.zghost _ rfl) | (exact AvLe.sl' rfl (by simp [k]; done) (by first | (simp [k] <;> omega) | omega)) | (exact AvLe.frz2 rfl (by simp) rfl (by simp [k]; done) (by simp [k]; done) (by simp [k]; done)) | (exact AvLe.list' (by simp [k]; done) (by simp [k]; done)) | (exact AvLe.eq (by simp [k]; done) rfl))
          | (exact ObjLe.map' rfl rfl)
          | (exact ObjLe.map2 rfl rfl (by first | (simp [k]; done) | (simp [k]; rfl)))
          | (exact ObjLe.slot' rfl)
          | (exact ObjLe.ghost' rfl (by decide))
          | (exact ObjLe.arr' rfl rfl (by first | (simp [k] <;> omega)) (fun _ _ => by first | rfl | (simp [k]; done)))
          | ((simp [k]; done))
      · repeat' first | exact chLe_nil | refine chLe_cons ?_ ?_ | exact AvLe.refl _ rfl | refine AvLe.aggs ?_ | exact All2.nil | refine All2.cons ?_ ?_
        all_goals first
          | (exact AvLe.refl _ rfl)
          | (exact AvLe.sl _ _ _ _ rfl)
          | (exact AvLe.hptr _ _ _ _ rfl)
          | (exact AvLe.mp _ _ rfl)
          | (exact AvLe.nil _)
          | (exact AvLe.znil _)
          | (exact AvLe.ghost _ rfl)
          | (exact AvLe.zghost _ rfl)
          | (exact AvLe.sl' rfl (by simp [k]; done) (by first | (simp [k] <;> omega) | omega))
          | (exact AvLe.frz2 rfl (by simp) rfl (by simp [k]; done) (by simp [k]; done) (by simp [k]; done))
          | (exact AvLe.list' (by simp [k]; done) (by simp [k]; done))
          | (exact AvLe.eq (by simp [k]; done) rfl)
    refine Wp.drawnS [3] (own := fun d => Nat.beq d 11 || Nat.beq d 39) tt_ok mixed [1] (by decide +kernel) trivial ?_
    refine regI_upto 5 (r := ?_) ?_ ?_ ?_
    rotate_left
    · simp [List.range, List.range.loop, k]; rfl
    · first | (simp [k] <;> omega) | (have hq := k; simp at hq; simp [k, hq]; done) | skip
    obtain ⟨⟨b, e, a⟩, h⟩ := oguard h
    refine regI_eff (r := ?_) rfl rfl rfl rfl rfl ?_ ?_ rfl ?_ ?_
    rotate_left
    · simp [k, b, e, a]; rfl
    · first | (simp [k, b, e, a] <;> omega) | (have hq := a; simp at hq; simp [k, b, e, a, hq]; done) | skip
    · simp [k, b, e, a]
    obtain ⟨dd, bo, h⟩ := obind h
    have f := congrArg (List.map cB) (Option.some.inj bo)
    have g := (congrArg List.length (Option.some.inj bo)).symm
    try simp [k, b, e, a] at f
    try simp [k, b, e, a] at g
    clear bo
    try simp only [f]
    refine regI_upto 2 (r := ?_) ?_ ?_ ?_
    rotate_left
    · simp [List.range, List.range.loop, k, b, e, a, f, g]; rfl
    · first | (simp [k, b, e, a, f, g] <;> omega) | (have hq := g; simp at hq; simp [k, b, e, a, f, g, hq]; done) | skip
    obtain ⟨m, h⟩ := oguard h
    refine regI_eff (r := ?_) rfl rfl rfl rfl rfl ?_ ?_ rfl ?_ ?_
    rotate_left
    · simp [k, b, e, a, f, g, m]; rfl
    · first | (simp [k, b, e, a, f, g, m] <;> omega) | (have hq := m; simp at hq; simp [k, b, e, a, f, g, m, hq]; done) | skip
    · simp [k, b, e, a, f, g, m]
    obtain ⟨bm, bp, h⟩ := obind h
    have j := congrArg (List.map cB) (Option.some.inj bp)
    have i := (congrArg List.length (Option.some.inj bp)).symm
    try simp [k, b, e, a, f, g, m] at j
    try simp [k, b, e, a, f, g, m] at i
    clear bp
    try simp only [j]
    refine regI_upto 1 (r := ?_) ?_ ?_ ?_
    rotate_left
    · simp [List.range, List.range.loop, k, b, e, a, f, g, m, j, i]; rfl
    · first | (simp [k, b, e, a, f, g, m, j, i] <;> omega) | (have hq := i; simp at hq; simp [k, b, e, a, f, g, m, j, i, hq]; done) | skip
    refine regI_slot2 (z := ?_) (s1 := ?_) 3 rfl rfl rfl rfl rfl (by decide) (by decide) (Nat.zero_le _) rfl rfl ?_ ?_ ?_
    rotate_left 2
    · simp [k, b, e, a, f, g, m, j, i]; rfl
    · simp [k, b, e, a, f, g, m, j, i]; rfl
    refine regI_bar (r := ?_) tt_ok rfl rfl rfl rfl ?_ ?_ ?_
    rotate_left
    · simp [k, b, e, a, f, g, m, j, i]; rfl
    · first | (simp [k, b, e, a, f, g, m, j, i] <;> omega) | (have hq := i; simp at hq; simp [k, b, e, a, f, g, m, j, i, hq]; done) | skip
    refine regI_nil ?_
    refine Wp.reg_seq (own := fun _ => false) tt_ok ?_
    iterate 4
      refine regv_pure (s1 := ?_) rfl rfl ?_ ?_ ?_
      rotate_left
      · simp [k, b, e, a, f, g, m, j, i]; rfl
      · first | (simp [k, b, e, a, f, g, m, j, i] <;> omega) | (have hq := i; simp at hq; simp [k, b, e, a, f, g, m, j, i, hq]; done) | skip
    refine regv_reloc (s1 := { ch := [(1, aL cB a1), (3, .hptr 0 0 0), (5, .hptr 1 0 0), (6, .bool false), (7, .int .i64 (a1.length : Int)), (8, aL cB bk), (9, .hptr 2 0 0), (10, .int .i64 bj), (11, .hptr 3 0 0), (17, aL cB a1), (19, .bool bz), (21, aL cB a1), (22, .int .i64 (a1.length : Int)), (25, aL cB a1), (28, aL cB bk), (30, .int .i64 bj), (31, .hptr 1 0 0), (32, aL cB a2.Q), (33, .hptr 1 0 1), (34, aL cB a2.M), (35, .int .i64 (a1.length : Int)), (36, .sl 4 0 a1.length), (37, .hptr 1 0 2), (38, aL cB a2.E), (39, aL cB bm), (40, .agg [aL cB a2.Q, aL cB a2.M, aL cB bm]), (42, .agg [.str _append0.Label, aL cApiContact _append0.Contacts, aL cApiCoil _append0.Coils, .str _append0.Jump]), (43, aL cB a1), (44, .agg [aL cB a2.Q, aL cB a2.M, aL cB bm]), (45, .int .i64 (a1.length : Int))], hp := [.var [.str _append0.Label, aL cApiContact _append0.Contacts, aL cApiCoil _append0.Coils, .str _append0.Jump], .var [aL cB a2.Q, aL cB a2.M, aL cB a2.E], .var [aL cB bi.Q, aL cB bi.M, aL cB bi.E], .var [aL cB a2.Q, aL cB a2.M, aL cB bm], .dead, .dead], base := 0, n := 136, cond := True }) ?_ ?_
    · refine Reloc.mk2 [some 0, some 1, some 2, some 3, some 4, none] rfl rfl rfl (by decide) ?_ ?_
      · repeat' first | exact objsLe_nil | refine objsLe_cons ?_ ?_
        all_goals first
          | exact trivial
          | (refine ObjLe.var' rfl rfl ?_ rfl
             repeat' first | exact All2.nil | refine All2.cons ?_ ?_
             all_goals first | (exact AvLe.refl _ rfl) | (exact AvLe.sl _ _ _ _ rfl) | (exact AvLe.hptr _ _ _ _ rfl) | (exact AvLe.mp _ _ rfl) | (exact AvLe.nil _) | (exact AvLe.znil _) | (exact AvLe.ghost _ rfl) | (exact AvLe.zghost _ rfl) | (exact AvLe.sl' rfl (by simp [k, b, e, a, f, g, m, j, i]; done) (by first | (simp [k, b, e, a, f, g, m, j, i] <;> omega) | omega)) | (exact AvLe.frz2 rfl (by simp) rfl (by simp [k, b, e, a, f, g, m, j, i]; done) (by simp [k, b, e, a, f, g, m, j, i]; done) (by simp [k, b, e, a, f, g, m, j, i]; done)) | (exact AvLe.list' (by simp [k, b, e, a, f, g, m, j, i]; done) (by simp [k, b, e, a, f, g, m, j, i]; done)) | (exact AvLe.eq (by simp [k, b, e, a, f, g, m, j, i]; done) rfl))
          | (exact ObjLe.map' rfl rfl)
          | (exact ObjLe.map2 rfl rfl (by first | (simp [k, b, e, a, f, g, m, j, i]; done) | (simp [k, b, e, a, f, g, m, j, i]; rfl)))
          | (exact ObjLe.slot' rfl)
          | (exact ObjLe.ghost' rfl (by decide))
          | (exact ObjLe.arr' rfl rfl (by first | (simp [k, b, e, a, f, g, m, j, i] <;> omega)) (fun _ _ => by first | rfl | (simp [k, b, e, a, f, g, m, j, i]; done)))
          | ((simp [k, b, e, a, f, g, m, j, i]; done))
      · repeat' first | exact chLe_nil | refine chLe_cons ?_ ?_ | exact AvLe.refl _ rfl | refine AvLe.aggs ?_ | exact All2.nil | refine All2.cons ?_ ?_
        all_goals first
          | (exact AvLe.refl _ rfl)
          | (exact AvLe.sl _ _ _ _ rfl)
          | (exact AvLe.hptr _ _ _ _ rfl)
          | (exact AvLe.mp _ _ rfl)
          | (exact AvLe.nil _)
          | (exact AvLe.znil _)
          | (exact AvLe.ghost _ rfl)
          | (exact AvLe.zghost _ rfl)
          | (exact AvLe.sl' rfl (by simp [k, b, e, a, f, g, m, j, i]; done) (by first | (simp [k, b, e, a, f, g, m, j, i] <;> omega) | omega))
          | (exact AvLe.frz2 rfl (by simp) rfl (by simp [k, b, e, a, f, g, m, j, i]; done) (by simp [k, b, e, a, f, g, m, j, i]; done) (by simp [k, b, e, a, f, g, m, j, i]; done))
          | (exact AvLe.list' (by simp [k, b, e, a, f, g, m, j, i]; done) (by simp [k, b, e, a, f, g, m, j, i]; done))
          | (exact AvLe.eq (by simp [k, b, e, a, f, g, m, j, i]; done) rfl)
    obtain ⟨⟨de, cu, cv⟩, cd, h⟩ := obind h
    dsimp only at h
    refine regv_call2 (s' := ?_) (p := ?_) (con_rungeval_Contacts cd) rfl rfl rfl rfl ?_ ?_ ?_ ?_ ?_ ?_
    rotate_left 2
    · simp [k, b, e, a, f, g, m, j, i]; rfl
    · first | exact .inl rfl | (refine .inl ?_; simp [k, b, e, a, f, g, m, j, i]; done) | (refine .inr ?_; dsimp only; repeat' first | exact All2.nil | refine All2.cons ?_ ?_ | exact AvLe.refl _ rfl | refine AvLe.aggs ?_) <;> first | exact AvLe.refl _ rfl | exact AvLe.nil _ | exact AvLe.znil _ | exact AvLe.list' (by first | (simp [k, b, e, a, f, g, m, j, i] <;> omega)) (by simp [k, b, e, a, f, g, m, j, i]; done) | exact AvLe.eq (by simp [k, b, e, a, f, g, m, j, i]; done) rfl
    · first | (simp [k, b, e, a, f, g, m, j, i] <;> omega) | (have hq := i; simp at hq; simp [k, b, e, a, f, g, m, j, i, hq]; done) | skip
    · simp
    · simp [k, b, e, a, f, g, m, j, i]; rfl
    iterate 8
      refine regv_pure (s1 := ?_) rfl rfl ?_ ?_ ?_
      rotate_left
      · simp [k, b, e, a, f, g, m, j, i]; rfl
      · first | (simp [k, b, e, a, f, g, m, j, i] <;> omega) | (have hq := i; simp at hq; simp [k, b, e, a, f, g, m, j, i, hq]; done) | skip
    refine regv_nil ?_
    refine Wp.seq ?_
    refine Wp.reg_seq (own := fun _ => false) tt_ok ?_
    iterate 4
      refine regv_pure (s1 := ?_) rfl rfl ?_ ?_ ?_
      rotate_left
      · simp [k, b, e, a, f, g, m, j, i]; rfl
      · first | (simp [k, b, e, a, f, g, m, j, i] <;> omega) | (have hq := i; simp at hq; simp [k, b, e, a, f, g, m, j, i, hq]; done) | skip
    cases o : (bj != cv)
    · rw [o, if_neg (by simp)] at h
      refine regv_pure (s1 := ?_) rfl ?_ ?_ ?_ ?_
      rotate_left
      · simp [k, b, e, a, f, g, m, j, i, o]; done
      · simp [k, b, e, a, f, g, m, j, i, o]; rfl
      · first | (simp [k, b, e, a, f, g, m, j, i, o] <;> omega) | (have hq := o; simp at hq; simp [k, b, e, a, f, g, m, j, i, o, hq]; done) | skip
      refine regv_pure (s1 := ?_) rfl ?_ ?_ ?_ ?_
      rotate_left
      · simp [k, b, e, a, f, g, m, j, i, o]; done
      · simp [k, b, e, a, f, g, m, j, i, o]; rfl
      · first | (simp [k, b, e, a, f, g, m, j, i, o] <;> omega) | (have hq := o; simp at hq; simp [k, b, e, a, f, g, m, j, i, o, hq]; done) | skip
      obtain ⟨cw, ce, h⟩ := obind h
      refine regv_call2 (s' := ?_) (p := ?_) (con_slices_Equal_bool ce) rfl rfl rfl rfl ?_ ?_ ?_ ?_ ?_ ?_
      rotate_left 2
      · simp [k, b, e, a, f, g, m, j, i, o]; rfl
      · first | exact .inl rfl | (refine .inl ?_; simp [k, b, e, a, f, g, m, j, i, o]; done) | (refine .inr ?_; dsimp only; repeat' first | exact All2.nil | refine All2.cons ?_ ?_ | exact AvLe.refl _ rfl | refine AvLe.aggs ?_) <;> first | exact AvLe.refl _ rfl | exact AvLe.nil _ | exact AvLe.znil _ | exact AvLe.list' (by first | (simp [k, b, e, a, f, g, m, j, i, o] <;> omega)) (by simp [k, b, e, a, f, g, m, j, i, o]; done) | exact AvLe.eq (by simp [k, b, e, a, f, g, m, j, i, o]; done) rfl
      · first | (simp [k, b, e, a, f, g, m, j, i, o] <;> omega) | (have hq := o; simp at hq; simp [k, b, e, a, f, g, m, j, i, o, hq]; done) | skip
      · simp
      · simp [k, b, e, a, f, g, m, j, i, o]; rfl
      refine regv_pure (s1 := ?_) rfl ?_ ?_ ?_ ?_
      rotate_left
      · simp [k, b, e, a, f, g, m, j, i, o]; done
      · simp [k, b, e, a, f, g, m, j, i, o]; rfl
      · first | (simp [k, b, e, a, f, g, m, j, i, o] <;> omega) | (have hq := o; simp at hq; simp [k, b, e, a, f, g, m, j, i, o, hq]; done) | skip
      iterate 1
        refine regv_pure (s1 := ?_) rfl rfl ?_ ?_ ?_
        rotate_left
        · simp [k, b, e, a, f, g, m, j, i, o]; rfl
        · first | (simp [k, b, e, a, f, g, m, j, i, o] <;> omega) | (have hq := o; simp at hq; simp [k, b, e, a, f, g, m, j, i, o, hq]; done) | skip
      refine regv_nil ?_
      cases q : (!cw)
      · rw [q, if_neg (by simp)] at h
        refine Wp.cond false (by first | (simp [k, b, e, a, f, g, m, j, i, o, q] <;> omega) | (have hq := q; simp at hq; simp [k, b, e, a, f, g, m, j, i, o, q, hq]; done)) (fun h0 => absurd h0 (by decide)) (fun _ => ?_)
        refine Wp.skip ?_
        show Wp _ _ _ _
        refine Wp.seq ?_
        refine Wp.reg_seq (own := fun _ => false) tt_ok ?_
        iterate 2
          refine regv_pure (s1 := ?_) rfl rfl ?_ ?_ ?_
          rotate_left
          · simp [k, b, e, a, f, g, m, j, i, o, q]; rfl
          · first | (simp [k, b, e, a, f, g, m, j, i, o, q] <;> omega) | (have hq := q; simp at hq; simp [k, b, e, a, f, g, m, j, i, o, q, hq]; done) | skip
        refine regv_nil ?_
        cases u : (bj != 0)
        · rw [u, if_neg (by simp)] at h
          refine Wp.cond false (by first | (simp [k, b, e, a, f, g, m, j, i, o, q, u] <;> omega) | (have hq := u; simp at hq; simp [k, b, e, a, f, g, m, j, i, o, q, u, hq]; done)) (fun h0 => absurd h0 (by decide)) (fun _ => ?_)
          refine Wp.skip ?_
          show Wp _ _ _ _
          refine Wp.reg_seq (own := fun _ => false) tt_ok ?_
          iterate 1
            refine regv_pure (s1 := ?_) rfl rfl ?_ ?_ ?_
            rotate_left
            · simp [k, b, e, a, f, g, m, j, i, o, q, u]; rfl
            · first | (simp [k, b, e, a, f, g, m, j, i, o, q, u] <;> omega) | (have hq := u; simp at hq; simp [k, b, e, a, f, g, m, j, i, o, q, u, hq]; done) | skip
          obtain ⟨ca, cf, h⟩ := obind h
          refine regv_call2 (s' := ?_) (p := ?_) (con_rungeval_EdgeCount cf) rfl rfl rfl rfl ?_ ?_ ?_ ?_ ?_ ?_
          rotate_left 2
          · simp [k, b, e, a, f, g, m, j, i, o, q, u]; rfl
          · first | exact .inl rfl | (refine .inl ?_; simp [k, b, e, a, f, g, m, j, i, o, q, u]; done) | (refine .inr ?_; dsimp only; repeat' first | exact All2.nil | refine All2.cons ?_ ?_ | exact AvLe.refl _ rfl | refine AvLe.aggs ?_) <;> first | exact AvLe.refl _ rfl | exact AvLe.nil _ | exact AvLe.znil _ | exact AvLe.list' (by first | (simp [k, b, e, a, f, g, m, j, i, o, q, u] <;> omega)) (by simp [k, b, e, a, f, g, m, j, i, o, q, u]; done) | exact AvLe.eq (by simp [k, b, e, a, f, g, m, j, i, o, q, u]; done) rfl
          · first | (simp [k, b, e, a, f, g, m, j, i, o, q, u] <;> omega) | (have hq := u; simp at hq; simp [k, b, e, a, f, g, m, j, i, o, q, u, hq]; done) | skip
          · simp
          · simp [k, b, e, a, f, g, m, j, i, o, q, u]; rfl
          iterate 1
            refine regv_pure (s1 := ?_) rfl rfl ?_ ?_ ?_
            rotate_left
            · simp [k, b, e, a, f, g, m, j, i, o, q, u]; rfl
            · first | (simp [k, b, e, a, f, g, m, j, i, o, q, u] <;> omega) | (have hq := u; simp at hq; simp [k, b, e, a, f, g, m, j, i, o, q, u, hq]; done) | skip
          refine regv_nil ?_
          refine Wp.seq ?_
          refine Wp.reg_seq (own := fun _ => false) tt_ok ?_
          iterate 8
            refine regv_pure (s1 := ?_) rfl rfl ?_ ?_ ?_
            rotate_left
            · simp [k, b, e, a, f, g, m, j, i, o, q, u]; rfl
            · first | (simp [k, b, e, a, f, g, m, j, i, o, q, u] <;> omega) | (have hq := u; simp at hq; simp [k, b, e, a, f, g, m, j, i, o, q, u, hq]; done) | skip
          cases v : ((bi.E.length : Int) != (a2.E.length : Int))
          · rw [v, if_neg (by simp)] at h
            refine regv_pure (s1 := ?_) rfl ?_ ?_ ?_ ?_
            rotate_left
            · simp [k, b, e, a, f, g, m, j, i, o, q, u, v]; done
            · simp [k, b, e, a, f, g, m, j, i, o, q, u, v]; rfl
            · first | (simp [k, b, e, a, f, g, m, j, i, o, q, u, v] <;> omega) | (have hq := v; simp at hq; simp [k, b, e, a, f, g, m, j, i, o, q, u, v, hq]; done) | skip
            refine regv_pure (s1 := ?_) rfl ?_ ?_ ?_ ?_
            rotate_left
            · simp [k, b, e, a, f, g, m, j, i, o, q, u, v]; done
            · simp [k, b, e, a, f, g, m, j, i, o, q, u, v]; rfl
            · first | (simp [k, b, e, a, f, g, m, j, i, o, q, u, v] <;> omega) | (have hq := v; simp at hq; simp [k, b, e, a, f, g, m, j, i, o, q, u, v, hq]; done) | skip
            refine regv_pure (s1 := ?_) rfl ?_ ?_ ?_ ?_
            rotate_left
            · simp [k, b, e, a, f, g, m, j, i, o, q, u, v]; done
            · simp [k, b, e, a, f, g, m, j, i, o, q, u, v]; rfl
            · first | (simp [k, b, e, a, f, g, m, j, i, o, q, u, v] <;> omega) | (have hq := v; simp at hq; simp [k, b, e, a, f, g, m, j, i, o, q, u, v, hq]; done) | skip
            refine regv_pure (s1 := ?_) rfl ?_ ?_ ?_ ?_
            rotate_left
            · simp [k, b, e, a, f, g, m, j, i, o, q, u, v]; done
            · simp [k, b, e, a, f, g, m, j, i, o, q, u, v]; rfl
            · first | (simp [k, b, e, a, f, g, m, j, i, o, q, u, v] <;> omega) | (have hq := v; simp at hq; simp [k, b, e, a, f, g, m, j, i, o, q, u, v, hq]; done) | skip
            refine regv_pure (s1 := ?_) rfl ?_ ?_ ?_ ?_
            rotate_left
            · simp [k, b, e, a, f, g, m, j, i, o, q, u, v]; done
            · simp [k, b, e, a, f, g, m, j, i, o, q, u, v]; rfl
            · first | (simp [k, b, e, a, f, g, m, j, i, o, q, u, v] <;> omega) | (have hq := v; simp at hq; simp [k, b, e, a, f, g, m, j, i, o, q, u, v, hq]; done) | skip
            refine regv_pure (s1 := ?_) rfl ?_ ?_ ?_ ?_
            rotate_left
            · simp [k, b, e, a, f, g, m, j, i, o, q, u, v]; done
            · simp [k, b, e, a, f, g, m, j, i, o, q, u, v]; rfl
            · first | (simp [k, b, e, a, f, g, m, j, i, o, q, u, v] <;> omega) | (have hq := v; simp at hq; simp [k, b, e, a, f, g, m, j, i, o, q, u, v, hq]; done) | skip
            refine regv_pure (s1 := ?_) rfl ?_ ?_ ?_ ?_
            rotate_left
            · simp [k, b, e, a, f, g, m, j, i, o, q, u, v]; done
            · simp [k, b, e, a, f, g, m, j, i, o, q, u, v]; rfl
            · first | (simp [k, b, e, a, f, g, m, j, i, o, q, u, v] <;> omega) | (have hq := v; simp at hq; simp [k, b, e, a, f, g, m, j, i, o, q, u, v, hq]; done) | skip
            refine regv_pure (s1 := ?_) rfl ?_ ?_ ?_ ?_
            rotate_left
            · simp [k, b, e, a, f, g, m, j, i, o, q, u, v]; done
            · simp [k, b, e, a, f, g, m, j, i, o, q, u, v]; rfl
            · first | (simp [k, b, e, a, f, g, m, j, i, o, q, u, v] <;> omega) | (have hq := v; simp at hq; simp [k, b, e, a, f, g, m, j, i, o, q, u, v, hq]; done) | skip
            refine regv_pure (s1 := ?_) rfl ?_ ?_ ?_ ?_
            rotate_left
            · simp [k, b, e, a, f, g, m, j, i, o, q, u, v]; done
            · simp [k, b, e, a, f, g, m, j, i, o, q, u, v]; rfl
            · first | (simp [k, b, e, a, f, g, m, j, i, o, q, u, v] <;> omega) | (have hq := v; simp at hq; simp [k, b, e, a, f, g, m, j, i, o, q, u, v, hq]; done) | skip
            iterate 2
              refine regv_pure (s1 := ?_) rfl rfl ?_ ?_ ?_
              rotate_left
              · simp [k, b, e, a, f, g, m, j, i, o, q, u, v]; rfl
              · first | (simp [k, b, e, a, f, g, m, j, i, o, q, u, v] <;> omega) | (have hq := v; simp at hq; simp [k, b, e, a, f, g, m, j, i, o, q, u, v, hq]; done) | skip
            cases w : ((cu.E.length : Int) != (IntKind.i64.wrap ((bi.E.length : Int) + (a1.length : Int))))
            · rw [w, if_neg (by simp)] at h
              refine regv_pure (s1 := ?_) rfl ?_ ?_ ?_ ?_
              rotate_left
              · simp [k, b, e, a, f, g, m, j, i, o, q, u, v, w]; done
              · simp [k, b, e, a, f, g, m, j, i, o, q, u, v, w]; rfl
              · first | (simp [k, b, e, a, f, g, m, j, i, o, q, u, v, w] <;> omega) | (have hq := w; simp at hq; simp [k, b, e, a, f, g, m, j, i, o, q, u, v, w, hq]; done) | skip
              refine regv_pure (s1 := ?_) rfl ?_ ?_ ?_ ?_
              rotate_left
              · simp [k, b, e, a, f, g, m, j, i, o, q, u, v, w]; done
              · simp [k, b, e, a, f, g, m, j, i, o, q, u, v, w]; rfl
              · first | (simp [k, b, e, a, f, g, m, j, i, o, q, u, v, w] <;> omega) | (have hq := w; simp at hq; simp [k, b, e, a, f, g, m, j, i, o, q, u, v, w, hq]; done) | skip
              iterate 2
                refine regv_pure (s1 := ?_) rfl rfl ?_ ?_ ?_
                rotate_left
                · simp [k, b, e, a, f, g, m, j, i, o, q, u, v, w]; rfl
                · first | (simp [k, b, e, a, f, g, m, j, i, o, q, u, v, w] <;> omega) | (have hq := w; simp at hq; simp [k, b, e, a, f, g, m, j, i, o, q, u, v, w, hq]; done) | skip
              refine (Decidable.em (ca < 0)).symm.elim (fun y => ?_) (fun y => ?_)
              · rw [if_neg (by simpa using y)] at h
                refine regv_pure (s1 := ?_) rfl ?_ ?_ ?_ ?_
                rotate_left
                · simp [k, b, e, a, f, g, m, j, i, o, q, u, v, w, y]; done
                · simp [k, b, e, a, f, g, m, j, i, o, q, u, v, w, y]; rfl
                · first | (simp [k, b, e, a, f, g, m, j, i, o, q, u, v, w, y] <;> omega) | (have hq := y; simp at hq; simp [k, b, e, a, f, g, m, j, i, o, q, u, v, w, y, hq]; done) | skip
                refine regv_pure (s1 := ?_) rfl ?_ ?_ ?_ ?_
                rotate_left
                · simp [k, b, e, a, f, g, m, j, i, o, q, u, v, w, y]; done
                · simp [k, b, e, a, f, g, m, j, i, o, q, u, v, w, y]; rfl
                · first | (simp [k, b, e, a, f, g, m, j, i, o, q, u, v, w, y] <;> omega) | (have hq := y; simp at hq; simp [k, b, e, a, f, g, m, j, i, o, q, u, v, w, y, hq]; done) | skip
                refine regv_pure (s1 := ?_) rfl ?_ ?_ ?_ ?_
                rotate_left
                · simp [k, b, e, a, f, g, m, j, i, o, q, u, v, w, y]; done
                · simp [k, b, e, a, f, g, m, j, i, o, q, u, v, w, y]; rfl
                · first | (simp [k, b, e, a, f, g, m, j, i, o, q, u, v, w, y] <;> omega) | (have hq := y; simp at hq; simp [k, b, e, a, f, g, m, j, i, o, q, u, v, w, y, hq]; done) | skip
                refine regv_pure (s1 := ?_) rfl ?_ ?_ ?_ ?_
                rotate_left
                · simp [k, b, e, a, f, g, m, j, i, o, q, u, v, w, y]; done
                · simp [k, b, e, a, f, g, m, j, i, o, q, u, v, w, y]; rfl
                · first | (simp [k, b, e, a, f, g, m, j, i, o, q, u, v, w, y] <;> omega) | (have hq := y; simp at hq; simp [k, b, e, a, f, g, m, j, i, o, q, u, v, w, y, hq]; done) | skip
                refine regv_pure (s1 := ?_) rfl ?_ ?_ ?_ ?_
                rotate_left
                · simp [k, b, e, a, f, g, m, j, i, o, q, u, v, w, y]; done
                · simp [k, b, e, a, f, g, m, j, i, o, q, u, v, w, y]; rfl
                · first | (simp [k, b, e, a, f, g, m, j, i, o, q, u, v, w, y] <;> omega) | (have hq := y; simp at hq; simp [k, b, e, a, f, g, m, j, i, o, q, u, v, w, y, hq]; done) | skip
                iterate 1
                  refine regv_pure (s1 := ?_) rfl rfl ?_ ?_ ?_
                  rotate_left
                  · simp [k, b, e, a, f, g, m, j, i, o, q, u, v, w, y]; rfl
                  · first | (simp [k, b, e, a, f, g, m, j, i, o, q, u, v, w, y] <;> omega) | (have hq := y; simp at hq; simp [k, b, e, a, f, g, m, j, i, o, q, u, v, w, y, hq]; done) | skip
                refine regv_nil ?_
                refine (Decidable.em (ca > (bi.E.length : Int))).symm.elim (fun aa => ?_) (fun aa => ?_)
                · rw [if_neg (by simpa using aa)] at h
                  refine Wp.cond false (by first | (simp [k, b, e, a, f, g, m, j, i, o, q, u, v, w, y, aa] <;> omega) | (have hq := aa; simp at hq; simp [k, b, e, a, f, g, m, j, i, o, q, u, v, w, y, aa, hq]; done)) (fun h0 => absurd h0 (by decide)) (fun _ => ?_)
                  refine Wp.skip ?_
                  show Wp _ _ _ _
                  refine Wp.drawn (own := fun _ => false) tt_ok mixed [1, 2, 6] (by decide +kernel) trivial ?_
                  obtain ⟨cy, cg, h⟩ := obind h
                  refine regI_call2 (s1 := ?_) (p := ?_) (con_law16_alive cg) rfl rfl rfl rfl ?_ ?_ ?_ (fun _ => rfl) ?_ rfl ?_ ?_
                  rotate_left 2
                  · simp [k, b, e, a, f, g, m, j, i, o, q, u, v, w, y, aa]; rfl
                  · first | exact .inl rfl | (refine .inl ?_; simp [k, b, e, a, f, g, m, j, i, o, q, u, v, w, y, aa]; done) | (refine .inr ?_; dsimp only; repeat' first | exact All2.nil | refine All2.cons ?_ ?_ | exact AvLe.refl _ rfl | refine AvLe.aggs ?_) <;> first | exact AvLe.refl _ rfl | exact AvLe.nil _ | exact AvLe.znil _ | exact AvLe.list' (by first | (simp [k, b, e, a, f, g, m, j, i, o, q, u, v, w, y, aa] <;> omega)) (by simp [k, b, e, a, f, g, m, j, i, o, q, u, v, w, y, aa]; done) | exact AvLe.eq (by simp [k, b, e, a, f, g, m, j, i, o, q, u, v, w, y, aa]; done) rfl
                  · first | (simp [k, b, e, a, f, g, m, j, i, o, q, u, v, w, y, aa] <;> omega) | (have hq := aa; simp at hq; simp [k, b, e, a, f, g, m, j, i, o, q, u, v, w, y, aa, hq]; done) | skip
                  · simp
                  · simp [k, b, e, a, f, g, m, j, i, o, q, u, v, w, y, aa]; rfl
                  refine regI_upto 1 (r := ?_) ?_ ?_ ?_
                  rotate_left
                  · simp [List.range, List.range.loop, k, b, e, a, f, g, m, j, i, o, q, u, v, w, y, aa]; rfl
                  · first | (simp [k, b, e, a, f, g, m, j, i, o, q, u, v, w, y, aa] <;> omega) | (have hq := aa; simp at hq; simp [k, b, e, a, f, g, m, j, i, o, q, u, v, w, y, aa, hq]; done) | skip
                  refine (Bool.eq_false_or_eq_true cy).symm.elim (fun ab => ?_) (fun ab => ?_)
                  · rw [if_neg (by rw [ab]; simp)] at h
                    refine regI_skip (s1 := ?_) rfl rfl ?_ ?_ ?_
                    rotate_left
                    · simp [k, b, e, a, f, g, m, j, i, o, q, u, v, w, y, aa, ab]; done
                    · simp [k, b, e, a, f, g, m, j, i, o, q, u, v, w, y, aa, ab]; rfl
                    refine regI_skip (s1 := ?_) rfl rfl ?_ ?_ ?_
                    rotate_left
                    · simp [k, b, e, a, f, g, m, j, i, o, q, u, v, w, y, aa, ab]; done
                    · simp [k, b, e, a, f, g, m, j, i, o, q, u, v, w, y, aa, ab]; rfl
                    refine regI_skip (s1 := ?_) rfl rfl ?_ ?_ ?_
                    rotate_left
                    · simp [k, b, e, a, f, g, m, j, i, o, q, u, v, w, y, aa, ab]; done
                    · simp [k, b, e, a, f, g, m, j, i, o, q, u, v, w, y, aa, ab]; rfl
                    refine regI_skip (s1 := ?_) rfl rfl ?_ ?_ ?_
                    rotate_left
                    · simp [k, b, e, a, f, g, m, j, i, o, q, u, v, w, y, aa, ab]; done
                    · simp [k, b, e, a, f, g, m, j, i, o, q, u, v, w, y, aa, ab]; rfl
                    refine regI_skip (s1 := ?_) rfl rfl ?_ ?_ ?_
                    rotate_left
                    · simp [k, b, e, a, f, g, m, j, i, o, q, u, v, w, y, aa, ab]; done
                    · simp [k, b, e, a, f, g, m, j, i, o, q, u, v, w, y, aa, ab]; rfl
                    refine regI_skip (s1 := ?_) rfl rfl ?_ ?_ ?_
                    rotate_left
                    · simp [k, b, e, a, f, g, m, j, i, o, q, u, v, w, y, aa, ab]; done
                    · simp [k, b, e, a, f, g, m, j, i, o, q, u, v, w, y, aa, ab]; rfl
                    refine regI_skip (s1 := ?_) rfl rfl ?_ ?_ ?_
                    rotate_left
                    · simp [k, b, e, a, f, g, m, j, i, o, q, u, v, w, y, aa, ab]; done
                    · simp [k, b, e, a, f, g, m, j, i, o, q, u, v, w, y, aa, ab]; rfl
                    refine regI_upto 2 (r := ?_) ?_ ?_ ?_
                    rotate_left
                    · simp [List.range, List.range.loop, k, b, e, a, f, g, m, j, i, o, q, u, v, w, y, aa, ab]; rfl
                    · first | (simp [k, b, e, a, f, g, m, j, i, o, q, u, v, w, y, aa, ab] <;> omega) | (have hq := ab; simp at hq; simp [k, b, e, a, f, g, m, j, i, o, q, u, v, w, y, aa, ab, hq]; done) | skip
                    refine regI_skip (s1 := ?_) rfl rfl ?_ ?_ ?_
                    rotate_left
                    · simp [k, b, e, a, f, g, m, j, i, o, q, u, v, w, y, aa, ab]; done
                    · simp [k, b, e, a, f, g, m, j, i, o, q, u, v, w, y, aa, ab]; rfl
                    refine regI_skip (s1 := ?_) rfl rfl ?_ ?_ ?_
                    rotate_left
                    · simp [k, b, e, a, f, g, m, j, i, o, q, u, v, w, y, aa, ab]; done
                    · simp [k, b, e, a, f, g, m, j, i, o, q, u, v, w, y, aa, ab]; rfl
                    refine regI_skip (s1 := ?_) rfl rfl ?_ ?_ ?_
                    rotate_left
                    · simp [k, b, e, a, f, g, m, j, i, o, q, u, v, w, y, aa, ab]; done
                    · simp [k, b, e, a, f, g, m, j, i, o, q, u, v, w, y, aa, ab]; rfl
                    refine regI_skip (s1 := ?_) rfl rfl ?_ ?_ ?_
                    rotate_left
                    · simp [k, b, e, a, f, g, m, j, i, o, q, u, v, w, y, aa, ab]; done
                    · simp [k, b, e, a, f, g, m, j, i, o, q, u, v, w, y, aa, ab]; rfl
                    refine regI_skip (s1 := ?_) rfl rfl ?_ ?_ ?_
                    rotate_left
                    · simp [k, b, e, a, f, g, m, j, i, o, q, u, v, w, y, aa, ab]; done
                    · simp [k, b, e, a, f, g, m, j, i, o, q, u, v, w, y, aa, ab]; rfl
                    refine regI_skip (s1 := ?_) rfl rfl ?_ ?_ ?_
                    rotate_left
                    · simp [k, b, e, a, f, g, m, j, i, o, q, u, v, w, y, aa, ab]; done
                    · simp [k, b, e, a, f, g, m, j, i, o, q, u, v, w, y, aa, ab]; rfl
                    refine regI_upto 2 (r := ?_) ?_ ?_ ?_
                    rotate_left
                    · simp [List.range, List.range.loop, k, b, e, a, f, g, m, j, i, o, q, u, v, w, y, aa, ab]; rfl
                    · first | (simp [k, b, e, a, f, g, m, j, i, o, q, u, v, w, y, aa, ab] <;> omega) | (have hq := ab; simp at hq; simp [k, b, e, a, f, g, m, j, i, o, q, u, v, w, y, aa, ab, hq]; done) | skip
                    refine regI_skip (s1 := ?_) rfl rfl ?_ ?_ ?_
                    rotate_left
                    · simp [k, b, e, a, f, g, m, j, i, o, q, u, v, w, y, aa, ab]; done
                    · simp [k, b, e, a, f, g, m, j, i, o, q, u, v, w, y, aa, ab]; rfl
                    refine regI_skip (s1 := ?_) rfl rfl ?_ ?_ ?_
                    rotate_left
                    · simp [k, b, e, a, f, g, m, j, i, o, q, u, v, w, y, aa, ab]; done
                    · simp [k, b, e, a, f, g, m, j, i, o, q, u, v, w, y, aa, ab]; rfl
                    refine regI_skip (s1 := ?_) rfl rfl ?_ ?_ ?_
                    rotate_left
                    · simp [k, b, e, a, f, g, m, j, i, o, q, u, v, w, y, aa, ab]; done
                    · simp [k, b, e, a, f, g, m, j, i, o, q, u, v, w, y, aa, ab]; rfl
                    refine regI_skip (s1 := ?_) rfl rfl ?_ ?_ ?_
                    rotate_left
                    · simp [k, b, e, a, f, g, m, j, i, o, q, u, v, w, y, aa, ab]; done
                    · simp [k, b, e, a, f, g, m, j, i, o, q, u, v, w, y, aa, ab]; rfl
                    refine regI_skip (s1 := ?_) rfl rfl ?_ ?_ ?_
                    rotate_left
                    · simp [k, b, e, a, f, g, m, j, i, o, q, u, v, w, y, aa, ab]; done
                    · simp [k, b, e, a, f, g, m, j, i, o, q, u, v, w, y, aa, ab]; rfl
                    refine regI_skip (s1 := ?_) rfl rfl ?_ ?_ ?_
                    rotate_left
                    · simp [k, b, e, a, f, g, m, j, i, o, q, u, v, w, y, aa, ab]; done
                    · simp [k, b, e, a, f, g, m, j, i, o, q, u, v, w, y, aa, ab]; rfl
                    refine regI_skip (s1 := ?_) rfl rfl ?_ ?_ ?_
                    rotate_left
                    · simp [k, b, e, a, f, g, m, j, i, o, q, u, v, w, y, aa, ab]; done
                    · simp [k, b, e, a, f, g, m, j, i, o, q, u, v, w, y, aa, ab]; rfl
                    refine regI_skip (s1 := ?_) rfl rfl ?_ ?_ ?_
                    rotate_left
                    · simp [k, b, e, a, f, g, m, j, i, o, q, u, v, w, y, aa, ab]; done
                    · simp [k, b, e, a, f, g, m, j, i, o, q, u, v, w, y, aa, ab]; rfl
                    refine regI_skip (s1 := ?_) rfl rfl ?_ ?_ ?_
                    rotate_left
                    · simp [k, b, e, a, f, g, m, j, i, o, q, u, v, w, y, aa, ab]; done
                    · simp [k, b, e, a, f, g, m, j, i, o, q, u, v, w, y, aa, ab]; rfl
                    refine regI_upto 2 (r := ?_) ?_ ?_ ?_
                    rotate_left
                    · simp [List.range, List.range.loop, k, b, e, a, f, g, m, j, i, o, q, u, v, w, y, aa, ab]; rfl
                    · first | (simp [k, b, e, a, f, g, m, j, i, o, q, u, v, w, y, aa, ab] <;> omega) | (have hq := ab; simp at hq; simp [k, b, e, a, f, g, m, j, i, o, q, u, v, w, y, aa, ab, hq]; done) | skip
                    refine regI_skip (s1 := ?_) rfl rfl ?_ ?_ ?_
                    rotate_left
                    · simp [k, b, e, a, f, g, m, j, i, o, q, u, v, w, y, aa, ab]; done
                    · simp [k, b, e, a, f, g, m, j, i, o, q, u, v, w, y, aa, ab]; rfl
                    refine regI_skip (s1 := ?_) rfl rfl ?_ ?_ ?_
                    rotate_left
                    · simp [k, b, e, a, f, g, m, j, i, o, q, u, v, w, y, aa, ab]; done
                    · simp [k, b, e, a, f, g, m, j, i, o, q, u, v, w, y, aa, ab]; rfl
                    refine regI_skip (s1 := ?_) rfl rfl ?_ ?_ ?_
                    rotate_left
                    · simp [k, b, e, a, f, g, m, j, i, o, q, u, v, w, y, aa, ab]; done
                    · simp [k, b, e, a, f, g, m, j, i, o, q, u, v, w, y, aa, ab]; rfl
                    refine regI_skip (s1 := ?_) rfl rfl ?_ ?_ ?_
                    rotate_left
                    · simp [k, b, e, a, f, g, m, j, i, o, q, u, v, w, y, aa, ab]; done
                    · simp [k, b, e, a, f, g, m, j, i, o, q, u, v, w, y, aa, ab]; rfl
                    refine regI_skip (s1 := ?_) rfl rfl ?_ ?_ ?_
                    rotate_left
                    · simp [k, b, e, a, f, g, m, j, i, o, q, u, v, w, y, aa, ab]; done
                    · simp [k, b, e, a, f, g, m, j, i, o, q, u, v, w, y, aa, ab]; rfl
                    refine regI_upto 2 (r := ?_) ?_ ?_ ?_
                    rotate_left
                    · simp [List.range, List.range.loop, k, b, e, a, f, g, m, j, i, o, q, u, v, w, y, aa, ab]; rfl
                    · first | (simp [k, b, e, a, f, g, m, j, i, o, q, u, v, w, y, aa, ab] <;> omega) | (have hq := ab; simp at hq; simp [k, b, e, a, f, g, m, j, i, o, q, u, v, w, y, aa, ab, hq]; done) | skip
                    refine regI_skip (s1 := ?_) rfl rfl ?_ ?_ ?_
                    rotate_left
                    · simp [k, b, e, a, f, g, m, j, i, o, q, u, v, w, y, aa, ab]; done
                    · simp [k, b, e, a, f, g, m, j, i, o, q, u, v, w, y, aa, ab]; rfl
                    refine regI_skip (s1 := ?_) rfl rfl ?_ ?_ ?_
                    rotate_left
                    · simp [k, b, e, a, f, g, m, j, i, o, q, u, v, w, y, aa, ab]; done
                    · simp [k, b, e, a, f, g, m, j, i, o, q, u, v, w, y, aa, ab]; rfl
                    refine regI_skip (s1 := ?_) rfl rfl ?_ ?_ ?_
                    rotate_left
                    · simp [k, b, e, a, f, g, m, j, i, o, q, u, v, w, y, aa, ab]; done
                    · simp [k, b, e, a, f, g, m, j, i, o, q, u, v, w, y, aa, ab]; rfl
                    refine regI_skip (s1 := ?_) rfl rfl ?_ ?_ ?_
                    rotate_left
                    · simp [k, b, e, a, f, g, m, j, i, o, q, u, v, w, y, aa, ab]; done
                    · simp [k, b, e, a, f, g, m, j, i, o, q, u, v, w, y, aa, ab]; rfl
                    refine regI_skip (s1 := ?_) rfl rfl ?_ ?_ ?_
                    rotate_left
                    · simp [k, b, e, a, f, g, m, j, i, o, q, u, v, w, y, aa, ab]; done
                    · simp [k, b, e, a, f, g, m, j, i, o, q, u, v, w, y, aa, ab]; rfl
                    refine regI_upto 2 (r := ?_) ?_ ?_ ?_
                    rotate_left
                    · simp [List.range, List.range.loop, k, b, e, a, f, g, m, j, i, o, q, u, v, w, y, aa, ab]; rfl
                    · first | (simp [k, b, e, a, f, g, m, j, i, o, q, u, v, w, y, aa, ab] <;> omega) | (have hq := ab; simp at hq; simp [k, b, e, a, f, g, m, j, i, o, q, u, v, w, y, aa, ab, hq]; done) | skip
                    refine regI_nil ?_
                    cases h
                    refine Wp.ret (endQ_ret0 rfl ?_)
                    repeat' first | exact All2.nil | refine All2.cons ?_ ?_ | refine AvLe.tups ?_ | refine AvLe.aggs ?_
                    all_goals first
                      | (exact AvLe.refl _ rfl)
                      | (exact AvLe.nil _)
                      | (exact AvLe.znil _)
                      | (exact AvLe.ghost _ rfl)
                      | (exact AvLe.zghost _ rfl)
                      | (exact AvLe.sl' rfl (by simp [k, b, e, a, f, g, m, j, i, o, q, u, v, w, y, aa, ab]; done) (by simp [k, b, e, a, f, g, m, j, i, o, q, u, v, w, y, aa, ab]; done))
                      | (exact AvLe.frz' rfl rfl rfl (by simp [k, b, e, a, f, g, m, j, i, o, q, u, v, w, y, aa, ab]; done) (by simp [k, b, e, a, f, g, m, j, i, o, q, u, v, w, y, aa, ab]; done) (by simp [k, b, e, a, f, g, m, j, i, o, q, u, v, w, y, aa, ab]; done))
                      | (exact AvLe.list' (by simp [k, b, e, a, f, g, m, j, i, o, q, u, v, w, y, aa, ab]; done) (by simp [k, b, e, a, f, g, m, j, i, o, q, u, v, w, y, aa, ab]; done))
                      | (exact AvLe.eq (by simp [k, b, e, a, f, g, m, j, i, o, q, u, v, w, y, aa, ab]; done) rfl)
                  · rw [if_pos ab] at h
                    refine regI_upto 1 (r := ?_) ?_ ?_ ?_
                    rotate_left
                    · simp [List.range, List.range.loop, k, b, e, a, f, g, m, j, i, o, q, u, v, w, y, aa, ab]; rfl
                    · first | (simp [k, b, e, a, f, g, m, j, i, o, q, u, v, w, y, aa, ab] <;> omega) | (have hq := ab; simp at hq; simp [k, b, e, a, f, g, m, j, i, o, q, u, v, w, y, aa, ab, hq]; done) | skip
                    refine regI_upto 1 (r := ?_) ?_ ?_ ?_
                    rotate_left
                    · simp [List.range, List.range.loop, k, b, e, a, f, g, m, j, i, o, q, u, v, w, y, aa, ab]; rfl
                    · first | (simp [k, b, e, a, f, g, m, j, i, o, q, u, v, w, y, aa, ab] <;> omega) | (have hq := ab; simp at hq; simp [k, b, e, a, f, g, m, j, i, o, q, u, v, w, y, aa, ab, hq]; done) | skip
                    refine regI_upto 1 (r := ?_) ?_ ?_ ?_
                    rotate_left
                    · simp [List.range, List.range.loop, k, b, e, a, f, g, m, j, i, o, q, u, v, w, y, aa, ab]; rfl
                    · first | (simp [k, b, e, a, f, g, m, j, i, o, q, u, v, w, y, aa, ab] <;> omega) | (have hq := ab; simp at hq; simp [k, b, e, a, f, g, m, j, i, o, q, u, v, w, y, aa, ab, hq]; done) | skip
                    obtain ⟨⟨ad, ae, ac⟩, h⟩ := oguard h
                    refine regI_upto 1 (r := ?_) ?_ ?_ ?_
                    rotate_left
                    · simp [List.range, List.range.loop, k, b, e, a, f, g, m, j, i, o, q, u, v, w, y, aa, ab, ad, ae, ac]; rfl
                    · first | (simp [k, b, e, a, f, g, m, j, i, o, q, u, v, w, y, aa, ab, ad, ae, ac] <;> omega) | (have hq := ac; simp at hq; simp [k, b, e, a, f, g, m, j, i, o, q, u, v, w, y, aa, ab, ad, ae, ac, hq]; done) | skip
                    obtain ⟨df, bq, h⟩ := obind h
                    have ag := congrArg (List.map cB) (Option.some.inj bq)
                    have af := (congrArg List.length (Option.some.inj bq)).symm
                    try simp [k, b, e, a, f, g, m, j, i, o, q, u, v, w, y, aa, ab, ad, ae, ac] at ag
                    try simp [k, b, e, a, f, g, m, j, i, o, q, u, v, w, y, aa, ab, ad, ae, ac] at af
                    clear bq
                    try simp only [ag]
                    refine regI_upto 1 (r := ?_) ?_ ?_ ?_
                    rotate_left
                    · simp [List.range, List.range.loop, k, b, e, a, f, g, m, j, i, o, q, u, v, w, y, aa, ab, ad, ae, ac, ag, af]; rfl
                    · first | (simp [k, b, e, a, f, g, m, j, i, o, q, u, v, w, y, aa, ab, ad, ae, ac, ag, af] <;> omega) | (have hq := af; simp at hq; simp [k, b, e, a, f, g, m, j, i, o, q, u, v, w, y, aa, ab, ad, ae, ac, ag, af, hq]; done) | skip
                    refine regI_upto 1 (r := ?_) ?_ ?_ ?_
                    rotate_left
                    · simp [List.range, List.range.loop, k, b, e, a, f, g, m, j, i, o, q, u, v, w, y, aa, ab, ad, ae, ac, ag, af]; rfl
                    · first | (simp [k, b, e, a, f, g, m, j, i, o, q, u, v, w, y, aa, ab, ad, ae, ac, ag, af] <;> omega) | (have hq := af; simp at hq; simp [k, b, e, a, f, g, m, j, i, o, q, u, v, w, y, aa, ab, ad, ae, ac, ag, af, hq]; done) | skip
                    obtain ⟨cz, ci, h⟩ := obind h
                    refine regI_call2 (s1 := ?_) (p := ?_) (con_slices_Equal_bool ci) rfl rfl rfl rfl ?_ ?_ ?_ (fun _ => rfl) ?_ rfl ?_ ?_
                    rotate_left 2
                    · simp [k, b, e, a, f, g, m, j, i, o, q, u, v, w, y, aa, ab, ad, ae, ac, ag, af]; rfl
                    · first | exact .inl rfl | (refine .inl ?_; simp [k, b, e, a, f, g, m, j, i, o, q, u, v, w, y, aa, ab, ad, ae, ac, ag, af]; done) | (refine .inr ?_; dsimp only; repeat' first | exact All2.nil | refine All2.cons ?_ ?_ | exact AvLe.refl _ rfl | refine AvLe.aggs ?_) <;> first | exact AvLe.refl _ rfl | exact AvLe.nil _ | exact AvLe.znil _ | exact AvLe.list' (by first | (simp [k, b, e, a, f, g, m, j, i, o, q, u, v, w, y, aa, ab, ad, ae, ac, ag, af] <;> omega)) (by simp [k, b, e, a, f, g, m, j, i, o, q, u, v, w, y, aa, ab, ad, ae, ac, ag, af]; done) | exact AvLe.eq (by simp [k, b, e, a, f, g, m, j, i, o, q, u, v, w, y, aa, ab, ad, ae, ac, ag, af]; done) rfl
                    · first | (simp [k, b, e, a, f, g, m, j, i, o, q, u, v, w, y, aa, ab, ad, ae, ac, ag, af] <;> omega) | (have hq := af; simp at hq; simp [k, b, e, a, f, g, m, j, i, o, q, u, v, w, y, aa, ab, ad, ae, ac, ag, af, hq]; done) | skip
                    · simp
                    · simp [k, b, e, a, f, g, m, j, i, o, q, u, v, w, y, aa, ab, ad, ae, ac, ag, af]; rfl
                    refine regI_upto 2 (r := ?_) ?_ ?_ ?_
                    rotate_left
                    · simp [List.range, List.range.loop, k, b, e, a, f, g, m, j, i, o, q, u, v, w, y, aa, ab, ad, ae, ac, ag, af]; rfl
                    · first | (simp [k, b, e, a, f, g, m, j, i, o, q, u, v, w, y, aa, ab, ad, ae, ac, ag, af] <;> omega) | (have hq := af; simp at hq; simp [k, b, e, a, f, g, m, j, i, o, q, u, v, w, y, aa, ab, ad, ae, ac, ag, af, hq]; done) | skip
                    refine (Bool.eq_false_or_eq_true cz).symm.elim (fun ai => ?_) (fun ai => ?_)
                    · rw [if_neg (by rw [ai]; simp)] at h
                      refine regI_skip (s1 := ?_) rfl rfl ?_ ?_ ?_
                      rotate_left
                      · simp [k, b, e, a, f, g, m, j, i, o, q, u, v, w, y, aa, ab, ad, ae, ac, ag, af, ai]; done
                      · simp [k, b, e, a, f, g, m, j, i, o, q, u, v, w, y, aa, ab, ad, ae, ac, ag, af, ai]; rfl
                      refine regI_skip (s1 := ?_) rfl rfl ?_ ?_ ?_
                      rotate_left
                      · simp [k, b, e, a, f, g, m, j, i, o, q, u, v, w, y, aa, ab, ad, ae, ac, ag, af, ai]; done
                      · simp [k, b, e, a, f, g, m, j, i, o, q, u, v, w, y, aa, ab, ad, ae, ac, ag, af, ai]; rfl
                      refine regI_skip (s1 := ?_) rfl rfl ?_ ?_ ?_
                      rotate_left
                      · simp [k, b, e, a, f, g, m, j, i, o, q, u, v, w, y, aa, ab, ad, ae, ac, ag, af, ai]; done
                      · simp [k, b, e, a, f, g, m, j, i, o, q, u, v, w, y, aa, ab, ad, ae, ac, ag, af, ai]; rfl
                      refine regI_skip (s1 := ?_) rfl rfl ?_ ?_ ?_
                      rotate_left
                      · simp [k, b, e, a, f, g, m, j, i, o, q, u, v, w, y, aa, ab, ad, ae, ac, ag, af, ai]; done
                      · simp [k, b, e, a, f, g, m, j, i, o, q, u, v, w, y, aa, ab, ad, ae, ac, ag, af, ai]; rfl
                      refine regI_skip (s1 := ?_) rfl rfl ?_ ?_ ?_
                      rotate_left
                      · simp [k, b, e, a, f, g, m, j, i, o, q, u, v, w, y, aa, ab, ad, ae, ac, ag, af, ai]; done
                      · simp [k, b, e, a, f, g, m, j, i, o, q, u, v, w, y, aa, ab, ad, ae, ac, ag, af, ai]; rfl
                      refine regI_skip (s1 := ?_) rfl rfl ?_ ?_ ?_
                      rotate_left
                      · simp [k, b, e, a, f, g, m, j, i, o, q, u, v, w, y, aa, ab, ad, ae, ac, ag, af, ai]; done
                      · simp [k, b, e, a, f, g, m, j, i, o, q, u, v, w, y, aa, ab, ad, ae, ac, ag, af, ai]; rfl
                      refine regI_upto 2 (r := ?_) ?_ ?_ ?_
                      rotate_left
                      · simp [List.range, List.range.loop, k, b, e, a, f, g, m, j, i, o, q, u, v, w, y, aa, ab, ad, ae, ac, ag, af, ai]; rfl
                      · first | (simp [k, b, e, a, f, g, m, j, i, o, q, u, v, w, y, aa, ab, ad, ae, ac, ag, af, ai] <;> omega) | (have hq := ai; simp at hq; simp [k, b, e, a, f, g, m, j, i, o, q, u, v, w, y, aa, ab, ad, ae, ac, ag, af, ai, hq]; done) | skip
                      refine regI_skip (s1 := ?_) rfl rfl ?_ ?_ ?_
                      rotate_left
                      · simp [k, b, e, a, f, g, m, j, i, o, q, u, v, w, y, aa, ab, ad, ae, ac, ag, af, ai]; done
                      · simp [k, b, e, a, f, g, m, j, i, o, q, u, v, w, y, aa, ab, ad, ae, ac, ag, af, ai]; rfl
                      refine regI_skip (s1 := ?_) rfl rfl ?_ ?_ ?_
                      rotate_left
                      · simp [k, b, e, a, f, g, m, j, i, o, q, u, v, w, y, aa, ab, ad, ae, ac, ag, af, ai]; done
                      · simp [k, b, e, a, f, g, m, j, i, o, q, u, v, w, y, aa, ab, ad, ae, ac, ag, af, ai]; rfl
                      refine regI_skip (s1 := ?_) rfl rfl ?_ ?_ ?_
                      rotate_left
                      · simp [k, b, e, a, f, g, m, j, i, o, q, u, v, w, y, aa, ab, ad, ae, ac, ag, af, ai]; done
                      · simp [k, b, e, a, f, g, m, j, i, o, q, u, v, w, y, aa, ab, ad, ae, ac, ag, af, ai]; rfl
                      refine regI_skip (s1 := ?_) rfl rfl ?_ ?_ ?_
                      rotate_left
                      · simp [k, b, e, a, f, g, m, j, i, o, q, u, v, w, y, aa, ab, ad, ae, ac, ag, af, ai]; done
                      · simp [k, b, e, a, f, g, m, j, i, o, q, u, v, w, y, aa, ab, ad, ae, ac, ag, af, ai]; rfl
                      refine regI_skip (s1 := ?_) rfl rfl ?_ ?_ ?_
                      rotate_left
                      · simp [k, b, e, a, f, g, m, j, i, o, q, u, v, w, y, aa, ab, ad, ae, ac, ag, af, ai]; done
                      · simp [k, b, e, a, f, g, m, j, i, o, q, u, v, w, y, aa, ab, ad, ae, ac, ag, af, ai]; rfl
                      refine regI_skip (s1 := ?_) rfl rfl ?_ ?_ ?_
                      rotate_left
                      · simp [k, b, e, a, f, g, m, j, i, o, q, u, v, w, y, aa, ab, ad, ae, ac, ag, af, ai]; done
                      · simp [k, b, e, a, f, g, m, j, i, o, q, u, v, w, y, aa, ab, ad, ae, ac, ag, af, ai]; rfl
                      refine regI_skip (s1 := ?_) rfl rfl ?_ ?_ ?_
                      rotate_left
                      · simp [k, b, e, a, f, g, m, j, i, o, q, u, v, w, y, aa, ab, ad, ae, ac, ag, af, ai]; done
                      · simp [k, b, e, a, f, g, m, j, i, o, q, u, v, w, y, aa, ab, ad, ae, ac, ag, af, ai]; rfl
                      refine regI_skip (s1 := ?_) rfl rfl ?_ ?_ ?_
                      rotate_left
                      · simp [k, b, e, a, f, g, m, j, i, o, q, u, v, w, y, aa, ab, ad, ae, ac, ag, af, ai]; done
                      · simp [k, b, e, a, f, g, m, j, i, o, q, u, v, w, y, aa, ab, ad, ae, ac, ag, af, ai]; rfl
                      refine regI_skip (s1 := ?_) rfl rfl ?_ ?_ ?_
                      rotate_left
                      · simp [k, b, e, a, f, g, m, j, i, o, q, u, v, w, y, aa, ab, ad, ae, ac, ag, af, ai]; done
                      · simp [k, b, e, a, f, g, m, j, i, o, q, u, v, w, y, aa, ab, ad, ae, ac, ag, af, ai]; rfl
                      refine regI_upto 2 (r := ?_) ?_ ?_ ?_
                      rotate_left
                      · simp [List.range, List.range.loop, k, b, e, a, f, g, m, j, i, o, q, u, v, w, y, aa, ab, ad, ae, ac, ag, af, ai]; rfl
                      · first | (simp [k, b, e, a, f, g, m, j, i, o, q, u, v, w, y, aa, ab, ad, ae, ac, ag, af, ai] <;> omega) | (have hq := ai; simp at hq; simp [k, b, e, a, f, g, m, j, i, o, q, u, v, w, y, aa, ab, ad, ae, ac, ag, af, ai, hq]; done) | skip
                      refine regI_skip (s1 := ?_) rfl rfl ?_ ?_ ?_
                      rotate_left
                      · simp [k, b, e, a, f, g, m, j, i, o, q, u, v, w, y, aa, ab, ad, ae, ac, ag, af, ai]; done
                      · simp [k, b, e, a, f, g, m, j, i, o, q, u, v, w, y, aa, ab, ad, ae, ac, ag, af, ai]; rfl
                      refine regI_skip (s1 := ?_) rfl rfl ?_ ?_ ?_
                      rotate_left
                      · simp [k, b, e, a, f, g, m, j, i, o, q, u, v, w, y, aa, ab, ad, ae, ac, ag, af, ai]; done
                      · simp [k, b, e, a, f, g, m, j, i, o, q, u, v, w, y, aa, ab, ad, ae, ac, ag, af, ai]; rfl
                      refine regI_skip (s1 := ?_) rfl rfl ?_ ?_ ?_
                      rotate_left
                      · simp [k, b, e, a, f, g, m, j, i, o, q, u, v, w, y, aa, ab, ad, ae, ac, ag, af, ai]; done
                      · simp [k, b, e, a, f, g, m, j, i, o, q, u, v, w, y, aa, ab, ad, ae, ac, ag, af, ai]; rfl
                      refine regI_skip (s1 := ?_) rfl rfl ?_ ?_ ?_
                      rotate_left
                      · simp [k, b, e, a, f, g, m, j, i, o, q, u, v, w, y, aa, ab, ad, ae, ac, ag, af, ai]; done
                      · simp [k, b, e, a, f, g, m, j, i, o, q, u, v, w, y, aa, ab, ad, ae, ac, ag, af, ai]; rfl
                      refine regI_skip (s1 := ?_) rfl rfl ?_ ?_ ?_
                      rotate_left
                      · simp [k, b, e, a, f, g, m, j, i, o, q, u, v, w, y, aa, ab, ad, ae, ac, ag, af, ai]; done
                      · simp [k, b, e, a, f, g, m, j, i, o, q, u, v, w, y, aa, ab, ad, ae, ac, ag, af, ai]; rfl
                      refine regI_upto 2 (r := ?_) ?_ ?_ ?_
                      rotate_left
                      · simp [List.range, List.range.loop, k, b, e, a, f, g, m, j, i, o, q, u, v, w, y, aa, ab, ad, ae, ac, ag, af, ai]; rfl
                      · first | (simp [k, b, e, a, f, g, m, j, i, o, q, u, v, w, y, aa, ab, ad, ae, ac, ag, af, ai] <;> omega) | (have hq := ai; simp at hq; simp [k, b, e, a, f, g, m, j, i, o, q, u, v, w, y, aa, ab, ad, ae, ac, ag, af, ai, hq]; done) | skip
                      refine regI_skip (s1 := ?_) rfl rfl ?_ ?_ ?_
                      rotate_left
                      · simp [k, b, e, a, f, g, m, j, i, o, q, u, v, w, y, aa, ab, ad, ae, ac, ag, af, ai]; done
                      · simp [k, b, e, a, f, g, m, j, i, o, q, u, v, w, y, aa, ab, ad, ae, ac, ag, af, ai]; rfl
                      refine regI_skip (s1 := ?_) rfl rfl ?_ ?_ ?_
                      rotate_left
                      · simp [k, b, e, a, f, g, m, j, i, o, q, u, v, w, y, aa, ab, ad, ae, ac, ag, af, ai]; done
                      · simp [k, b, e, a, f, g, m, j, i, o, q, u, v, w, y, aa, ab, ad, ae, ac, ag, af, ai]; rfl
                      refine regI_skip (s1 := ?_) rfl rfl ?_ ?_ ?_
                      rotate_left
                      · simp [k, b, e, a, f, g, m, j, i, o, q, u, v, w, y, aa, ab, ad, ae, ac, ag, af, ai]; done
                      · simp [k, b, e, a, f, g, m, j, i, o, q, u, v, w, y, aa, ab, ad, ae, ac, ag, af, ai]; rfl
                      refine regI_skip (s1 := ?_) rfl rfl ?_ ?_ ?_
                      rotate_left
                      · simp [k, b, e, a, f, g, m, j, i, o, q, u, v, w, y, aa, ab, ad, ae, ac, ag, af, ai]; done
                      · simp [k, b, e, a, f, g, m, j, i, o, q, u, v, w, y, aa, ab, ad, ae, ac, ag, af, ai]; rfl
                      refine regI_skip (s1 := ?_) rfl rfl ?_ ?_ ?_
                      rotate_left
                      · simp [k, b, e, a, f, g, m, j, i, o, q, u, v, w, y, aa, ab, ad, ae, ac, ag, af, ai]; done
                      · simp [k, b, e, a, f, g, m, j, i, o, q, u, v, w, y, aa, ab, ad, ae, ac, ag, af, ai]; rfl
                      refine regI_upto 2 (r := ?_) ?_ ?_ ?_
                      rotate_left
                      · simp [List.range, List.range.loop, k, b, e, a, f, g, m, j, i, o, q, u, v, w, y, aa, ab, ad, ae, ac, ag, af, ai]; rfl
                      · first | (simp [k, b, e, a, f, g, m, j, i, o, q, u, v, w, y, aa, ab, ad, ae, ac, ag, af, ai] <;> omega) | (have hq := ai; simp at hq; simp [k, b, e, a, f, g, m, j, i, o, q, u, v, w, y, aa, ab, ad, ae, ac, ag, af, ai, hq]; done) | skip
                      refine regI_nil ?_
                      cases h
                      refine Wp.ret (endQ_ret0 rfl ?_)
                      repeat' first | exact All2.nil | refine All2.cons ?_ ?_ | refine AvLe.tups ?_ | refine AvLe.aggs ?_
                      all_goals first
                        | (exact AvLe.refl _ rfl)
                        | (exact AvLe.nil _)
                        | (exact AvLe.znil _)
                        | (exact AvLe.ghost _ rfl)
                        | (exact AvLe.zghost _ rfl)
                        | (exact AvLe.sl' rfl (by simp [k, b, e, a, f, g, m, j, i, o, q, u, v, w, y, aa, ab, ad, ae, ac, ag, af, ai]; done) (by simp [k, b, e, a, f, g, m, j, i, o, q, u, v, w, y, aa, ab, ad, ae, ac, ag, af, ai]; done))
                        | (exact AvLe.frz' rfl rfl rfl (by simp [k, b, e, a, f, g, m, j, i, o, q, u, v, w, y, aa, ab, ad, ae, ac, ag, af, ai]; done) (by simp [k, b, e, a, f, g, m, j, i, o, q, u, v, w, y, aa, ab, ad, ae, ac, ag, af, ai]; done) (by simp [k, b, e, a, f, g, m, j, i, o, q, u, v, w, y, aa, ab, ad, ae, ac, ag, af, ai]; done))
                        | (exact AvLe.list' (by simp [k, b, e, a, f, g, m, j, i, o, q, u, v, w, y, aa, ab, ad, ae, ac, ag, af, ai]; done) (by simp [k, b, e, a, f, g, m, j, i, o, q, u, v, w, y, aa, ab, ad, ae, ac, ag, af, ai]; done))
                        | (exact AvLe.eq (by simp [k, b, e, a, f, g, m, j, i, o, q, u, v, w, y, aa, ab, ad, ae, ac, ag, af, ai]; done) rfl)
                    · rw [if_pos ai] at h
                      refine regI_upto 1 (r := ?_) ?_ ?_ ?_
                      rotate_left
                      · simp [List.range, List.range.loop, k, b, e, a, f, g, m, j, i, o, q, u, v, w, y, aa, ab, ad, ae, ac, ag, af, ai]; rfl
                      · first | (simp [k, b, e, a, f, g, m, j, i, o, q, u, v, w, y, aa, ab, ad, ae, ac, ag, af, ai] <;> omega) | (have hq := ai; simp at hq; simp [k, b, e, a, f, g, m, j, i, o, q, u, v, w, y, aa, ab, ad, ae, ac, ag, af, ai, hq]; done) | skip
                      refine regI_upto 1 (r := ?_) ?_ ?_ ?_
                      rotate_left
                      · simp [List.range, List.range.loop, k, b, e, a, f, g, m, j, i, o, q, u, v, w, y, aa, ab, ad, ae, ac, ag, af, ai]; rfl
                      · first | (simp [k, b, e, a, f, g, m, j, i, o, q, u, v, w, y, aa, ab, ad, ae, ac, ag, af, ai] <;> omega) | (have hq := ai; simp at hq; simp [k, b, e, a, f, g, m, j, i, o, q, u, v, w, y, aa, ab, ad, ae, ac, ag, af, ai, hq]; done) | skip
                      refine regI_upto 1 (r := ?_) ?_ ?_ ?_
                      rotate_left
                      · simp [List.range, List.range.loop, k, b, e, a, f, g, m, j, i, o, q, u, v, w, y, aa, ab, ad, ae, ac, ag, af, ai]; rfl
                      · first | (simp [k, b, e, a, f, g, m, j, i, o, q, u, v, w, y, aa, ab, ad, ae, ac, ag, af, ai] <;> omega) | (have hq := ai; simp at hq; simp [k, b, e, a, f, g, m, j, i, o, q, u, v, w, y, aa, ab, ad, ae, ac, ag, af, ai, hq]; done) | skip
                      obtain ⟨⟨ak, am, aj⟩, h⟩ := oguard h
                      refine regI_upto 1 (r := ?_) ?_ ?_ ?_
                      rotate_left
                      · simp [List.range, List.range.loop, k, b, e, a, f, g, m, j, i, o, q, u, v, w, y, aa, ab, ad, ae, ac, ag, af, ai, ak, am, aj]; rfl
                      · first | (simp [k, b, e, a, f, g, m, j, i, o, q, u, v, w, y, aa, ab, ad, ae, ac, ag, af, ai, ak, am, aj] <;> omega) | (have hq := aj; simp at hq; simp [k, b, e, a, f, g, m, j, i, o, q, u, v, w, y, aa, ab, ad, ae, ac, ag, af, ai, ak, am, aj, hq]; done) | skip
                      obtain ⟨dg, bu, h⟩ := obind h
                      have ap := congrArg (List.map cB) (Option.some.inj bu)
                      have ao := (congrArg List.length (Option.some.inj bu)).symm
                      try simp [k, b, e, a, f, g, m, j, i, o, q, u, v, w, y, aa, ab, ad, ae, ac, ag, af, ai, ak, am, aj] at ap
                      try simp [k, b, e, a, f, g, m, j, i, o, q, u, v, w, y, aa, ab, ad, ae, ac, ag, af, ai, ak, am, aj] at ao
                      clear bu
                      try simp only [ap]
                      obtain ⟨da, cj, h⟩ := obind h
                      refine regI_call2 (s1 := ?_) (p := ?_) (con_slices_Contains_bool cj) rfl rfl rfl rfl ?_ ?_ ?_ (fun _ => rfl) ?_ rfl ?_ ?_
                      rotate_left 2
                      · simp [k, b, e, a, f, g, m, j, i, o, q, u, v, w, y, aa, ab, ad, ae, ac, ag, af, ai, ak, am, aj, ap, ao]; rfl
                      · first | exact .inl rfl | (refine .inl ?_; simp [k, b, e, a, f, g, m, j, i, o, q, u, v, w, y, aa, ab, ad, ae, ac, ag, af, ai, ak, am, aj, ap, ao]; done) | (refine .inr ?_; dsimp only; repeat' first | exact All2.nil | refine All2.cons ?_ ?_ | exact AvLe.refl _ rfl | refine AvLe.aggs ?_) <;> first | exact AvLe.refl _ rfl | exact AvLe.nil _ | exact AvLe.znil _ | exact AvLe.list' (by first | (simp [k, b, e, a, f, g, m, j, i, o, q, u, v, w, y, aa, ab, ad, ae, ac, ag, af, ai, ak, am, aj, ap, ao] <;> omega)) (by simp [k, b, e, a, f, g, m, j, i, o, q, u, v, w, y, aa, ab, ad, ae, ac, ag, af, ai, ak, am, aj, ap, ao]; done) | exact AvLe.eq (by simp [k, b, e, a, f, g, m, j, i, o, q, u, v, w, y, aa, ab, ad, ae, ac, ag, af, ai, ak, am, aj, ap, ao]; done) rfl
                      · first | (simp [k, b, e, a, f, g, m, j, i, o, q, u, v, w, y, aa, ab, ad, ae, ac, ag, af, ai, ak, am, aj, ap, ao] <;> omega) | (have hq := ao; simp at hq; simp [k, b, e, a, f, g, m, j, i, o, q, u, v, w, y, aa, ab, ad, ae, ac, ag, af, ai, ak, am, aj, ap, ao, hq]; done) | skip
                      · simp
                      · simp [k, b, e, a, f, g, m, j, i, o, q, u, v, w, y, aa, ab, ad, ae, ac, ag, af, ai, ak, am, aj, ap, ao]; rfl
                      refine regI_upto 1 (r := ?_) ?_ ?_ ?_
                      rotate_left
                      · simp [List.range, List.range.loop, k, b, e, a, f, g, m, j, i, o, q, u, v, w, y, aa, ab, ad, ae, ac, ag, af, ai, ak, am, aj, ap, ao]; rfl
                      · first | (simp [k, b, e, a, f, g, m, j, i, o, q, u, v, w, y, aa, ab, ad, ae, ac, ag, af, ai, ak, am, aj, ap, ao] <;> omega) | (have hq := ao; simp at hq; simp [k, b, e, a, f, g, m, j, i, o, q, u, v, w, y, aa, ab, ad, ae, ac, ag, af, ai, ak, am, aj, ap, ao, hq]; done) | skip
                      refine regI_upto 2 (r := ?_) ?_ ?_ ?_
                      rotate_left
                      · simp [List.range, List.range.loop, k, b, e, a, f, g, m, j, i, o, q, u, v, w, y, aa, ab, ad, ae, ac, ag, af, ai, ak, am, aj, ap, ao]; rfl
                      · first | (simp [k, b, e, a, f, g, m, j, i, o, q, u, v, w, y, aa, ab, ad, ae, ac, ag, af, ai, ak, am, aj, ap, ao] <;> omega) | (have hq := ao; simp at hq; simp [k, b, e, a, f, g, m, j, i, o, q, u, v, w, y, aa, ab, ad, ae, ac, ag, af, ai, ak, am, aj, ap, ao, hq]; done) | skip
                      cases aq : (!da)
                      · rw [aq, if_neg (by simp)] at h
                        refine regI_skip (s1 := ?_) rfl rfl ?_ ?_ ?_
                        rotate_left
                        · simp [k, b, e, a, f, g, m, j, i, o, q, u, v, w, y, aa, ab, ad, ae, ac, ag, af, ai, ak, am, aj, ap, ao, aq]; done
                        · simp [k, b, e, a, f, g, m, j, i, o, q, u, v, w, y, aa, ab, ad, ae, ac, ag, af, ai, ak, am, aj, ap, ao, aq]; rfl
                        refine regI_skip (s1 := ?_) rfl rfl ?_ ?_ ?_
                        rotate_left
                        · simp [k, b, e, a, f, g, m, j, i, o, q, u, v, w, y, aa, ab, ad, ae, ac, ag, af, ai, ak, am, aj, ap, ao, aq]; done
                        · simp [k, b, e, a, f, g, m, j, i, o, q, u, v, w, y, aa, ab, ad, ae, ac, ag, af, ai, ak, am, aj, ap, ao, aq]; rfl
                        refine regI_skip (s1 := ?_) rfl rfl ?_ ?_ ?_
                        rotate_left
                        · simp [k, b, e, a, f, g, m, j, i, o, q, u, v, w, y, aa, ab, ad, ae, ac, ag, af, ai, ak, am, aj, ap, ao, aq]; done
                        · simp [k, b, e, a, f, g, m, j, i, o, q, u, v, w, y, aa, ab, ad, ae, ac, ag, af, ai, ak, am, aj, ap, ao, aq]; rfl
                        refine regI_skip (s1 := ?_) rfl rfl ?_ ?_ ?_
                        rotate_left
                        · simp [k, b, e, a, f, g, m, j, i, o, q, u, v, w, y, aa, ab, ad, ae, ac, ag, af, ai, ak, am, aj, ap, ao, aq]; done
                        · simp [k, b, e, a, f, g, m, j, i, o, q, u, v, w, y, aa, ab, ad, ae, ac, ag, af, ai, ak, am, aj, ap, ao, aq]; rfl
                        refine regI_skip (s1 := ?_) rfl rfl ?_ ?_ ?_
                        rotate_left
                        · simp [k, b, e, a, f, g, m, j, i, o, q, u, v, w, y, aa, ab, ad, ae, ac, ag, af, ai, ak, am, aj, ap, ao, aq]; done
                        · simp [k, b, e, a, f, g, m, j, i, o, q, u, v, w, y, aa, ab, ad, ae, ac, ag, af, ai, ak, am, aj, ap, ao, aq]; rfl
                        refine regI_skip (s1 := ?_) rfl rfl ?_ ?_ ?_
                        rotate_left
                        · simp [k, b, e, a, f, g, m, j, i, o, q, u, v, w, y, aa, ab, ad, ae, ac, ag, af, ai, ak, am, aj, ap, ao, aq]; done
                        · simp [k, b, e, a, f, g, m, j, i, o, q, u, v, w, y, aa, ab, ad, ae, ac, ag, af, ai, ak, am, aj, ap, ao, aq]; rfl
                        refine regI_skip (s1 := ?_) rfl rfl ?_ ?_ ?_
                        rotate_left
                        · simp [k, b, e, a, f, g, m, j, i, o, q, u, v, w, y, aa, ab, ad, ae, ac, ag, af, ai, ak, am, aj, ap, ao, aq]; done
                        · simp [k, b, e, a, f, g, m, j, i, o, q, u, v, w, y, aa, ab, ad, ae, ac, ag, af, ai, ak, am, aj, ap, ao, aq]; rfl
                        refine regI_skip (s1 := ?_) rfl rfl ?_ ?_ ?_
                        rotate_left
                        · simp [k, b, e, a, f, g, m, j, i, o, q, u, v, w, y, aa, ab, ad, ae, ac, ag, af, ai, ak, am, aj, ap, ao, aq]; done
                        · simp [k, b, e, a, f, g, m, j, i, o, q, u, v, w, y, aa, ab, ad, ae, ac, ag, af, ai, ak, am, aj, ap, ao, aq]; rfl
                        refine regI_skip (s1 := ?_) rfl rfl ?_ ?_ ?_
                        rotate_left
                        · simp [k, b, e, a, f, g, m, j, i, o, q, u, v, w, y, aa, ab, ad, ae, ac, ag, af, ai, ak, am, aj, ap, ao, aq]; done
                        · simp [k, b, e, a, f, g, m, j, i, o, q, u, v, w, y, aa, ab, ad, ae, ac, ag, af, ai, ak, am, aj, ap, ao, aq]; rfl
                        refine regI_upto 2 (r := ?_) ?_ ?_ ?_
                        rotate_left
                        · simp [List.range, List.range.loop, k, b, e, a, f, g, m, j, i, o, q, u, v, w, y, aa, ab, ad, ae, ac, ag, af, ai, ak, am, aj, ap, ao, aq]; rfl
                        · first | (simp [k, b, e, a, f, g, m, j, i, o, q, u, v, w, y, aa, ab, ad, ae, ac, ag, af, ai, ak, am, aj, ap, ao, aq] <;> omega) | (have hq := aq; simp at hq; simp [k, b, e, a, f, g, m, j, i, o, q, u, v, w, y, aa, ab, ad, ae, ac, ag, af, ai, ak, am, aj, ap, ao, aq, hq]; done) | skip
                        refine regI_skip (s1 := ?_) rfl rfl ?_ ?_ ?_
                        rotate_left
                        · simp [k, b, e, a, f, g, m, j, i, o, q, u, v, w, y, aa, ab, ad, ae, ac, ag, af, ai, ak, am, aj, ap, ao, aq]; done
                        · simp [k, b, e, a, f, g, m, j, i, o, q, u, v, w, y, aa, ab, ad, ae, ac, ag, af, ai, ak, am, aj, ap, ao, aq]; rfl
                        refine regI_skip (s1 := ?_) rfl rfl ?_ ?_ ?_
                        rotate_left
                        · simp [k, b, e, a, f, g, m, j, i, o, q, u, v, w, y, aa, ab, ad, ae, ac, ag, af, ai, ak, am, aj, ap, ao, aq]; done
                        · simp [k, b, e, a, f, g, m, j, i, o, q, u, v, w, y, aa, ab, ad, ae, ac, ag, af, ai, ak, am, aj, ap, ao, aq]; rfl
                        refine regI_skip (s1 := ?_) rfl rfl ?_ ?_ ?_
                        rotate_left
                        · simp [k, b, e, a, f, g, m, j, i, o, q, u, v, w, y, aa, ab, ad, ae, ac, ag, af, ai, ak, am, aj, ap, ao, aq]; done
                        · simp [k, b, e, a, f, g, m, j, i, o, q, u, v, w, y, aa, ab, ad, ae, ac, ag, af, ai, ak, am, aj, ap, ao, aq]; rfl
                        refine regI_skip (s1 := ?_) rfl rfl ?_ ?_ ?_
                        rotate_left
                        · simp [k, b, e, a, f, g, m, j, i, o, q, u, v, w, y, aa, ab, ad, ae, ac, ag, af, ai, ak, am, aj, ap, ao, aq]; done
                        · simp [k, b, e, a, f, g, m, j, i, o, q, u, v, w, y, aa, ab, ad, ae, ac, ag, af, ai, ak, am, aj, ap, ao, aq]; rfl
                        refine regI_skip (s1 := ?_) rfl rfl ?_ ?_ ?_
                        rotate_left
                        · simp [k, b, e, a, f, g, m, j, i, o, q, u, v, w, y, aa, ab, ad, ae, ac, ag, af, ai, ak, am, aj, ap, ao, aq]; done
                        · simp [k, b, e, a, f, g, m, j, i, o, q, u, v, w, y, aa, ab, ad, ae, ac, ag, af, ai, ak, am, aj, ap, ao, aq]; rfl
                        refine regI_upto 2 (r := ?_) ?_ ?_ ?_
                        rotate_left
                        · simp [List.range, List.range.loop, k, b, e, a, f, g, m, j, i, o, q, u, v, w, y, aa, ab, ad, ae, ac, ag, af, ai, ak, am, aj, ap, ao, aq]; rfl
                        · first | (simp [k, b, e, a, f, g, m, j, i, o, q, u, v, w, y, aa, ab, ad, ae, ac, ag, af, ai, ak, am, aj, ap, ao, aq] <;> omega) | (have hq := aq; simp at hq; simp [k, b, e, a, f, g, m, j, i, o, q, u, v, w, y, aa, ab, ad, ae, ac, ag, af, ai, ak, am, aj, ap, ao, aq, hq]; done) | skip
                        refine regI_skip (s1 := ?_) rfl rfl ?_ ?_ ?_
                        rotate_left
                        · simp [k, b, e, a, f, g, m, j, i, o, q, u, v, w, y, aa, ab, ad, ae, ac, ag, af, ai, ak, am, aj, ap, ao, aq]; done
                        · simp [k, b, e, a, f, g, m, j, i, o, q, u, v, w, y, aa, ab, ad, ae, ac, ag, af, ai, ak, am, aj, ap, ao, aq]; rfl
                        refine regI_skip (s1 := ?_) rfl rfl ?_ ?_ ?_
                        rotate_left
                        · simp [k, b, e, a, f, g, m, j, i, o, q, u, v, w, y, aa, ab, ad, ae, ac, ag, af, ai, ak, am, aj, ap, ao, aq]; done
                        · simp [k, b, e, a, f, g, m, j, i, o, q, u, v, w, y, aa, ab, ad, ae, ac, ag, af, ai, ak, am, aj, ap, ao, aq]; rfl
                        refine regI_skip (s1 := ?_) rfl rfl ?_ ?_ ?_
                        rotate_left
                        · simp [k, b, e, a, f, g, m, j, i, o, q, u, v, w, y, aa, ab, ad, ae, ac, ag, af, ai, ak, am, aj, ap, ao, aq]; done
                        · simp [k, b, e, a, f, g, m, j, i, o, q, u, v, w, y, aa, ab, ad, ae, ac, ag, af, ai, ak, am, aj, ap, ao, aq]; rfl
                        refine regI_skip (s1 := ?_) rfl rfl ?_ ?_ ?_
                        rotate_left
                        · simp [k, b, e, a, f, g, m, j, i, o, q, u, v, w, y, aa, ab, ad, ae, ac, ag, af, ai, ak, am, aj, ap, ao, aq]; done
                        · simp [k, b, e, a, f, g, m, j, i, o, q, u, v, w, y, aa, ab, ad, ae, ac, ag, af, ai, ak, am, aj, ap, ao, aq]; rfl
                        refine regI_skip (s1 := ?_) rfl rfl ?_ ?_ ?_
                        rotate_left
                        · simp [k, b, e, a, f, g, m, j, i, o, q, u, v, w, y, aa, ab, ad, ae, ac, ag, af, ai, ak, am, aj, ap, ao, aq]; done
                        · simp [k, b, e, a, f, g, m, j, i, o, q, u, v, w, y, aa, ab, ad, ae, ac, ag, af, ai, ak, am, aj, ap, ao, aq]; rfl
                        refine regI_upto 2 (r := ?_) ?_ ?_ ?_
                        rotate_left
                        · simp [List.range, List.range.loop, k, b, e, a, f, g, m, j, i, o, q, u, v, w, y, aa, ab, ad, ae, ac, ag, af, ai, ak, am, aj, ap, ao, aq]; rfl
                        · first | (simp [k, b, e, a, f, g, m, j, i, o, q, u, v, w, y, aa, ab, ad, ae, ac, ag, af, ai, ak, am, aj, ap, ao, aq] <;> omega) | (have hq := aq; simp at hq; simp [k, b, e, a, f, g, m, j, i, o, q, u, v, w, y, aa, ab, ad, ae, ac, ag, af, ai, ak, am, aj, ap, ao, aq, hq]; done) | skip
                        refine regI_nil ?_
                        cases h
                        refine Wp.ret (endQ_ret0 rfl ?_)
                        repeat' first | exact All2.nil | refine All2.cons ?_ ?_ | refine AvLe.tups ?_ | refine AvLe.aggs ?_
                        all_goals first
                          | (exact AvLe.refl _ rfl)
                          | (exact AvLe.nil _)
                          | (exact AvLe.znil _)
                          | (exact AvLe.ghost _ rfl)
                          | (exact AvLe.zghost _ rfl)
                          | (exact AvLe.sl' rfl (by simp [k, b, e, a, f, g, m, j, i, o, q, u, v, w, y, aa, ab, ad, ae, ac, ag, af, ai, ak, am, aj, ap, ao, aq]; done) (by simp [k, b, e, a, f, g, m, j, i, o, q, u, v, w, y, aa, ab, ad, ae, ac, ag, af, ai, ak, am, aj, ap, ao, aq]; done))
                          | (exact AvLe.frz' rfl rfl rfl (by simp [k, b, e, a, f, g, m, j, i, o, q, u, v, w, y, aa, ab, ad, ae, ac, ag, af, ai, ak, am, aj, ap, ao, aq]; done) (by simp [k, b, e, a, f, g, m, j, i, o, q, u, v, w, y, aa, ab, ad, ae, ac, ag, af, ai, ak, am, aj, ap, ao, aq]; done) (by simp [k, b, e, a, f, g, m, j, i, o, q, u, v, w, y, aa, ab, ad, ae, ac, ag, af, ai, ak, am, aj, ap, ao, aq]; done))
                          | (exact AvLe.list' (by simp [k, b, e, a, f, g, m, j, i, o, q, u, v, w, y, aa, ab, ad, ae, ac, ag, af, ai, ak, am, aj, ap, ao, aq]; done) (by simp [k, b, e, a, f, g, m, j, i, o, q, u, v, w, y, aa, ab, ad, ae, ac, ag, af, ai, ak, am, aj, ap, ao, aq]; done))
                          | (exact AvLe.eq (by simp [k, b, e, a, f, g, m, j, i, o, q, u, v, w, y, aa, ab, ad, ae, ac, ag, af, ai, ak, am, aj, ap, ao, aq]; done) rfl)
                      · rw [aq, if_pos rfl] at h
                        refine regI_upto 1 (r := ?_) ?_ ?_ ?_
                        rotate_left
                        · simp [List.range, List.range.loop, k, b, e, a, f, g, m, j, i, o, q, u, v, w, y, aa, ab, ad, ae, ac, ag, af, ai, ak, am, aj, ap, ao, aq]; rfl
                        · first | (simp [k, b, e, a, f, g, m, j, i, o, q, u, v, w, y, aa, ab, ad, ae, ac, ag, af, ai, ak, am, aj, ap, ao, aq] <;> omega) | (have hq := aq; simp at hq; simp [k, b, e, a, f, g, m, j, i, o, q, u, v, w, y, aa, ab, ad, ae, ac, ag, af, ai, ak, am, aj, ap, ao, aq, hq]; done) | skip
                        refine regI_upto 1 (r := ?_) ?_ ?_ ?_
                        rotate_left
                        · simp [List.range, List.range.loop, k, b, e, a, f, g, m, j, i, o, q, u, v, w, y, aa, ab, ad, ae, ac, ag, af, ai, ak, am, aj, ap, ao, aq]; rfl
                        · first | (simp [k, b, e, a, f, g, m, j, i, o, q, u, v, w, y, aa, ab, ad, ae, ac, ag, af, ai, ak, am, aj, ap, ao, aq] <;> omega) | (have hq := aq; simp at hq; simp [k, b, e, a, f, g, m, j, i, o, q, u, v, w, y, aa, ab, ad, ae, ac, ag, af, ai, ak, am, aj, ap, ao, aq, hq]; done) | skip
                        refine regI_upto 1 (r := ?_) ?_ ?_ ?_
                        rotate_left
                        · simp [List.range, List.range.loop, k, b, e, a, f, g, m, j, i, o, q, u, v, w, y, aa, ab, ad, ae, ac, ag, af, ai, ak, am, aj, ap, ao, aq]; rfl
                        · first | (simp [k, b, e, a, f, g, m, j, i, o, q, u, v, w, y, aa, ab, ad, ae, ac, ag, af, ai, ak, am, aj, ap, ao, aq] <;> omega) | (have hq := aq; simp at hq; simp [k, b, e, a, f, g, m, j, i, o, q, u, v, w, y, aa, ab, ad, ae, ac, ag, af, ai, ak, am, aj, ap, ao, aq, hq]; done) | skip
                        obtain ⟨⟨av, aw, au⟩, h⟩ := oguard h
                        refine regI_upto 1 (r := ?_) ?_ ?_ ?_
                        rotate_left
                        · simp [List.range, List.range.loop, k, b, e, a, f, g, m, j, i, o, q, u, v, w, y, aa, ab, ad, ae, ac, ag, af, ai, ak, am, aj, ap, ao, aq, av, aw, au]; rfl
                        · first | (simp [k, b, e, a, f, g, m, j, i, o, q, u, v, w, y, aa, ab, ad, ae, ac, ag, af, ai, ak, am, aj, ap, ao, aq, av, aw, au] <;> omega) | (have hq := au; simp at hq; simp [k, b, e, a, f, g, m, j, i, o, q, u, v, w, y, aa, ab, ad, ae, ac, ag, af, ai, ak, am, aj, ap, ao, aq, av, aw, au, hq]; done) | skip
                        obtain ⟨di, bv, h⟩ := obind h
                        have az := congrArg (List.map cB) (Option.some.inj bv)
                        have ay := (congrArg List.length (Option.some.inj bv)).symm
                        try simp [k, b, e, a, f, g, m, j, i, o, q, u, v, w, y, aa, ab, ad, ae, ac, ag, af, ai, ak, am, aj, ap, ao, aq, av, aw, au] at az
                        try simp [k, b, e, a, f, g, m, j, i, o, q, u, v, w, y, aa, ab, ad, ae, ac, ag, af, ai, ak, am, aj, ap, ao, aq, av, aw, au] at ay
                        clear bv
                        try simp only [az]
                        refine regI_upto 1 (r := ?_) ?_ ?_ ?_
                        rotate_left
                        · simp [List.range, List.range.loop, k, b, e, a, f, g, m, j, i, o, q, u, v, w, y, aa, ab, ad, ae, ac, ag, af, ai, ak, am, aj, ap, ao, aq, av, aw, au, az, ay]; rfl
                        · first | (simp [k, b, e, a, f, g, m, j, i, o, q, u, v, w, y, aa, ab, ad, ae, ac, ag, af, ai, ak, am, aj, ap, ao, aq, av, aw, au, az, ay] <;> omega) | (have hq := ay; simp at hq; simp [k, b, e, a, f, g, m, j, i, o, q, u, v, w, y, aa, ab, ad, ae, ac, ag, af, ai, ak, am, aj, ap, ao, aq, av, aw, au, az, ay, hq]; done) | skip
                        refine regI_upto 1 (r := ?_) ?_ ?_ ?_
                        rotate_left
                        · simp [List.range, List.range.loop, k, b, e, a, f, g, m, j, i, o, q, u, v, w, y, aa, ab, ad, ae, ac, ag, af, ai, ak, am, aj, ap, ao, aq, av, aw, au, az, ay]; rfl
                        · first | (simp [k, b, e, a, f, g, m, j, i, o, q, u, v, w, y, aa, ab, ad, ae, ac, ag, af, ai, ak, am, aj, ap, ao, aq, av, aw, au, az, ay] <;> omega) | (have hq := ay; simp at hq; simp [k, b, e, a, f, g, m, j, i, o, q, u, v, w, y, aa, ab, ad, ae, ac, ag, af, ai, ak, am, aj, ap, ao, aq, av, aw, au, az, ay, hq]; done) | skip
                        refine regI_upto 1 (r := ?_) ?_ ?_ ?_
                        rotate_left
                        · simp [List.range, List.range.loop, k, b, e, a, f, g, m, j, i, o, q, u, v, w, y, aa, ab, ad, ae, ac, ag, af, ai, ak, am, aj, ap, ao, aq, av, aw, au, az, ay]; rfl
                        · first | (simp [k, b, e, a, f, g, m, j, i, o, q, u, v, w, y, aa, ab, ad, ae, ac, ag, af, ai, ak, am, aj, ap, ao, aq, av, aw, au, az, ay] <;> omega) | (have hq := ay; simp at hq; simp [k, b, e, a, f, g, m, j, i, o, q, u, v, w, y, aa, ab, ad, ae, ac, ag, af, ai, ak, am, aj, ap, ao, aq, av, aw, au, az, ay, hq]; done) | skip
                        obtain ⟨⟨bb, bc, ba⟩, h⟩ := oguard h
                        refine regI_upto 1 (r := ?_) ?_ ?_ ?_
                        rotate_left
                        · simp [List.range, List.range.loop, k, b, e, a, f, g, m, j, i, o, q, u, v, w, y, aa, ab, ad, ae, ac, ag, af, ai, ak, am, aj, ap, ao, aq, av, aw, au, az, ay, bb, bc, ba]; rfl
                        · first | (simp [k, b, e, a, f, g, m, j, i, o, q, u, v, w, y, aa, ab, ad, ae, ac, ag, af, ai, ak, am, aj, ap, ao, aq, av, aw, au, az, ay, bb, bc, ba] <;> omega) | (have hq := ba; simp at hq; simp [k, b, e, a, f, g, m, j, i, o, q, u, v, w, y, aa, ab, ad, ae, ac, ag, af, ai, ak, am, aj, ap, ao, aq, av, aw, au, az, ay, bb, bc, ba, hq]; done) | skip
                        obtain ⟨dj, bw, h⟩ := obind h
                        have be := congrArg (List.map cB) (Option.some.inj bw)
                        have bd := (congrArg List.length (Option.some.inj bw)).symm
                        try simp [k, b, e, a, f, g, m, j, i, o, q, u, v, w, y, aa, ab, ad, ae, ac, ag, af, ai, ak, am, aj, ap, ao, aq, av, aw, au, az, ay, bb, bc, ba] at be
                        try simp [k, b, e, a, f, g, m, j, i, o, q, u, v, w, y, aa, ab, ad, ae, ac, ag, af, ai, ak, am, aj, ap, ao, aq, av, aw, au, az, ay, bb, bc, ba] at bd
                        clear bw
                        try simp only [be]
                        obtain ⟨db, ck, h⟩ := obind h
                        refine regI_call2 (s1 := ?_) (p := ?_) (con_slices_Equal_bool ck) rfl rfl rfl rfl ?_ ?_ ?_ (fun _ => rfl) ?_ rfl ?_ ?_
                        rotate_left 2
                        · simp [k, b, e, a, f, g, m, j, i, o, q, u, v, w, y, aa, ab, ad, ae, ac, ag, af, ai, ak, am, aj, ap, ao, aq, av, aw, au, az, ay, bb, bc, ba, be, bd]; rfl
                        · first | exact .inl rfl | (refine .inl ?_; simp [k, b, e, a, f, g, m, j, i, o, q, u, v, w, y, aa, ab, ad, ae, ac, ag, af, ai, ak, am, aj, ap, ao, aq, av, aw, au, az, ay, bb, bc, ba, be, bd]; done) | (refine .inr ?_; dsimp only; repeat' first | exact All2.nil | refine All2.cons ?_ ?_ | exact AvLe.refl _ rfl | refine AvLe.aggs ?_) <;> first | exact AvLe.refl _ rfl | exact AvLe.nil _ | exact AvLe.znil _ | exact AvLe.list' (by first | (simp [k, b, e, a, f, g, m, j, i, o, q, u, v, w, y, aa, ab, ad, ae, ac, ag, af, ai, ak, am, aj, ap, ao, aq, av, aw, au, az, ay, bb, bc, ba, be, bd] <;> omega)) (by simp [k, b, e, a, f, g, m, j, i, o, q, u, v, w, y, aa, ab, ad, ae, ac, ag, af, ai, ak, am, aj, ap, ao, aq, av, aw, au, az, ay, bb, bc, ba, be, bd]; done) | exact AvLe.eq (by simp [k, b, e, a, f, g, m, j, i, o, q, u, v, w, y, aa, ab, ad, ae, ac, ag, af, ai, ak, am, aj, ap, ao, aq, av, aw, au, az, ay, bb, bc, ba, be, bd]; done) rfl
                        · first | (simp [k, b, e, a, f, g, m, j, i, o, q, u, v, w, y, aa, ab, ad, ae, ac, ag, af, ai, ak, am, aj, ap, ao, aq, av, aw, au, az, ay, bb, bc, ba, be, bd] <;> omega) | (have hq := bd; simp at hq; simp [k, b, e, a, f, g, m, j, i, o, q, u, v, w, y, aa, ab, ad, ae, ac, ag, af, ai, ak, am, aj, ap, ao, aq, av, aw, au, az, ay, bb, bc, ba, be, bd, hq]; done) | skip
                        · simp
                        · simp [k, b, e, a, f, g, m, j, i, o, q, u, v, w, y, aa, ab, ad, ae, ac, ag, af, ai, ak, am, aj, ap, ao, aq, av, aw, au, az, ay, bb, bc, ba, be, bd]; rfl
                        refine regI_upto 2 (r := ?_) ?_ ?_ ?_
                        rotate_left
                        · simp [List.range, List.range.loop, k, b, e, a, f, g, m, j, i, o, q, u, v, w, y, aa, ab, ad, ae, ac, ag, af, ai, ak, am, aj, ap, ao, aq, av, aw, au, az, ay, bb, bc, ba, be, bd]; rfl
                        · first | (simp [k, b, e, a, f, g, m, j, i, o, q, u, v, w, y, aa, ab, ad, ae, ac, ag, af, ai, ak, am, aj, ap, ao, aq, av, aw, au, az, ay, bb, bc, ba, be, bd] <;> omega) | (have hq := bd; simp at hq; simp [k, b, e, a, f, g, m, j, i, o, q, u, v, w, y, aa, ab, ad, ae, ac, ag, af, ai, ak, am, aj, ap, ao, aq, av, aw, au, az, ay, bb, bc, ba, be, bd, hq]; done) | skip
                        refine (Bool.eq_false_or_eq_true db).symm.elim (fun bf => ?_) (fun bf => ?_)
                        · rw [if_neg (by rw [bf]; simp)] at h
                          refine regI_skip (s1 := ?_) rfl rfl ?_ ?_ ?_
                          rotate_left
                          · simp [k, b, e, a, f, g, m, j, i, o, q, u, v, w, y, aa, ab, ad, ae, ac, ag, af, ai, ak, am, aj, ap, ao, aq, av, aw, au, az, ay, bb, bc, ba, be, bd, bf]; done
                          · simp [k, b, e, a, f, g, m, j, i, o, q, u, v, w, y, aa, ab, ad, ae, ac, ag, af, ai, ak, am, aj, ap, ao, aq, av, aw, au, az, ay, bb, bc, ba, be, bd, bf]; rfl
                          refine regI_skip (s1 := ?_) rfl rfl ?_ ?_ ?_
                          rotate_left
                          · simp [k, b, e, a, f, g, m, j, i, o, q, u, v, w, y, aa, ab, ad, ae, ac, ag, af, ai, ak, am, aj, ap, ao, aq, av, aw, au, az, ay, bb, bc, ba, be, bd, bf]; done
                          · simp [k, b, e, a, f, g, m, j, i, o, q, u, v, w, y, aa, ab, ad, ae, ac, ag, af, ai, ak, am, aj, ap, ao, aq, av, aw, au, az, ay, bb, bc, ba, be, bd, bf]; rfl
                          refine regI_skip (s1 := ?_) rfl rfl ?_ ?_ ?_
                          rotate_left
                          · simp [k, b, e, a, f, g, m, j, i, o, q, u, v, w, y, aa, ab, ad, ae, ac, ag, af, ai, ak, am, aj, ap, ao, aq, av, aw, au, az, ay, bb, bc, ba, be, bd, bf]; done
                          · simp [k, b, e, a, f, g, m, j, i, o, q, u, v, w, y, aa, ab, ad, ae, ac, ag, af, ai, ak, am, aj, ap, ao, aq, av, aw, au, az, ay, bb, bc, ba, be, bd, bf]; rfl
                          refine regI_skip (s1 := ?_) rfl rfl ?_ ?_ ?_
                          rotate_left
                          · simp [k, b, e, a, f, g, m, j, i, o, q, u, v, w, y, aa, ab, ad, ae, ac, ag, af, ai, ak, am, aj, ap, ao, aq, av, aw, au, az, ay, bb, bc, ba, be, bd, bf]; done
                          · simp [k, b, e, a, f, g, m, j, i, o, q, u, v, w, y, aa, ab, ad, ae, ac, ag, af, ai, ak, am, aj, ap, ao, aq, av, aw, au, az, ay, bb, bc, ba, be, bd, bf]; rfl
                          refine regI_skip (s1 := ?_) rfl rfl ?_ ?_ ?_
                          rotate_left
                          · simp [k, b, e, a, f, g, m, j, i, o, q, u, v, w, y, aa, ab, ad, ae, ac, ag, af, ai, ak, am, aj, ap, ao, aq, av, aw, au, az, ay, bb, bc, ba, be, bd, bf]; done
                          · simp [k, b, e, a, f, g, m, j, i, o, q, u, v, w, y, aa, ab, ad, ae, ac, ag, af, ai, ak, am, aj, ap, ao, aq, av, aw, au, az, ay, bb, bc, ba, be, bd, bf]; rfl
                          refine regI_upto 2 (r := ?_) ?_ ?_ ?_
                          rotate_left
                          · simp [List.range, List.range.loop, k, b, e, a, f, g, m, j, i, o, q, u, v, w, y, aa, ab, ad, ae, ac, ag, af, ai, ak, am, aj, ap, ao, aq, av, aw, au, az, ay, bb, bc, ba, be, bd, bf]; rfl
                          · first | (simp [k, b, e, a, f, g, m, j, i, o, q, u, v, w, y, aa, ab, ad, ae, ac, ag, af, ai, ak, am, aj, ap, ao, aq, av, aw, au, az, ay, bb, bc, ba, be, bd, bf] <;> omega) | (have hq := bf; simp at hq; simp [k, b, e, a, f, g, m, j, i, o, q, u, v, w, y, aa, ab, ad, ae, ac, ag, af, ai, ak, am, aj, ap, ao, aq, av, aw, au, az, ay, bb, bc, ba, be, bd, bf, hq]; done) | skip
                          refine regI_skip (s1 := ?_) rfl rfl ?_ ?_ ?_
                          rotate_left
                          · simp [k, b, e, a, f, g, m, j, i, o, q, u, v, w, y, aa, ab, ad, ae, ac, ag, af, ai, ak, am, aj, ap, ao, aq, av, aw, au, az, ay, bb, bc, ba, be, bd, bf]; done
                          · simp [k, b, e, a, f, g, m, j, i, o, q, u, v, w, y, aa, ab, ad, ae, ac, ag, af, ai, ak, am, aj, ap, ao, aq, av, aw, au, az, ay, bb, bc, ba, be, bd, bf]; rfl
                          refine regI_skip (s1 := ?_) rfl rfl ?_ ?_ ?_
                          rotate_left
                          · simp [k, b, e, a, f, g, m, j, i, o, q, u, v, w, y, aa, ab, ad, ae, ac, ag, af, ai, ak, am, aj, ap, ao, aq, av, aw, au, az, ay, bb, bc, ba, be, bd, bf]; done
                          · simp [k, b, e, a, f, g, m, j, i, o, q, u, v, w, y, aa, ab, ad, ae, ac, ag, af, ai, ak, am, aj, ap, ao, aq, av, aw, au, az, ay, bb, bc, ba, be, bd, bf]; rfl
                          refine regI_skip (s1 := ?_) rfl rfl ?_ ?_ ?_
                          rotate_left
                          · simp [k, b, e, a, f, g, m, j, i, o, q, u, v, w, y, aa, ab, ad, ae, ac, ag, af, ai, ak, am, aj, ap, ao, aq, av, aw, au, az, ay, bb, bc, ba, be, bd, bf]; done
                          · simp [k, b, e, a, f, g, m, j, i, o, q, u, v, w, y, aa, ab, ad, ae, ac, ag, af, ai, ak, am, aj, ap, ao, aq, av, aw, au, az, ay, bb, bc, ba, be, bd, bf]; rfl
                          refine regI_skip (s1 := ?_) rfl rfl ?_ ?_ ?_
                          rotate_left
                          · simp [k, b, e, a, f, g, m, j, i, o, q, u, v, w, y, aa, ab, ad, ae, ac, ag, af, ai, ak, am, aj, ap, ao, aq, av, aw, au, az, ay, bb, bc, ba, be, bd, bf]; done
                          · simp [k, b, e, a, f, g, m, j, i, o, q, u, v, w, y, aa, ab, ad, ae, ac, ag, af, ai, ak, am, aj, ap, ao, aq, av, aw, au, az, ay, bb, bc, ba, be, bd, bf]; rfl
                          refine regI_skip (s1 := ?_) rfl rfl ?_ ?_ ?_
                          rotate_left
                          · simp [k, b, e, a, f, g, m, j, i, o, q, u, v, w, y, aa, ab, ad, ae, ac, ag, af, ai, ak, am, aj, ap, ao, aq, av, aw, au, az, ay, bb, bc, ba, be, bd, bf]; done
                          · simp [k, b, e, a, f, g, m, j, i, o, q, u, v, w, y, aa, ab, ad, ae, ac, ag, af, ai, ak, am, aj, ap, ao, aq, av, aw, au, az, ay, bb, bc, ba, be, bd, bf]; rfl
                          refine regI_upto 2 (r := ?_) ?_ ?_ ?_
                          rotate_left
                          · simp [List.range, List.range.loop, k, b, e, a, f, g, m, j, i, o, q, u, v, w, y, aa, ab, ad, ae, ac, ag, af, ai, ak, am, aj, ap, ao, aq, av, aw, au, az, ay, bb, bc, ba, be, bd, bf]; rfl
                          · first | (simp [k, b, e, a, f, g, m, j, i, o, q, u, v, w, y, aa, ab, ad, ae, ac, ag, af, ai, ak, am, aj, ap, ao, aq, av, aw, au, az, ay, bb, bc, ba, be, bd, bf] <;> omega) | (have hq := bf; simp at hq; simp [k, b, e, a, f, g, m, j, i, o, q, u, v, w, y, aa, ab, ad, ae, ac, ag, af, ai, ak, am, aj, ap, ao, aq, av, aw, au, az, ay, bb, bc, ba, be, bd, bf, hq]; done) | skip
                          refine regI_nil ?_
                          cases h
                          refine Wp.ret (endQ_ret0 rfl ?_)
                          repeat' first | exact All2.nil | refine All2.cons ?_ ?_ | refine AvLe.tups ?_ | refine AvLe.aggs ?_
                          all_goals first
                            | (exact AvLe.refl _ rfl)
                            | (exact AvLe.nil _)
                            | (exact AvLe.znil _)
                            | (exact AvLe.ghost _ rfl)
                            | (exact AvLe.zghost _ rfl)
                            | (exact AvLe.sl' rfl (by simp [k, b, e, a, f, g, m, j, i, o, q, u, v, w, y, aa, ab, ad, ae, ac, ag, af, ai, ak, am, aj, ap, ao, aq, av, aw, au, az, ay, bb, bc, ba, be, bd, bf]; done) (by simp [k, b, e, a, f, g, m, j, i, o, q, u, v, w, y, aa, ab, ad, ae, ac, ag, af, ai, ak, am, aj, ap, ao, aq, av, aw, au, az, ay, bb, bc, ba, be, bd, bf]; done))
                            | (exact AvLe.frz' rfl rfl rfl (by simp [k, b, e, a, f, g, m, j, i, o, q, u, v, w, y, aa, ab, ad, ae, ac, ag, af, ai, ak, am, aj, ap, ao, aq, av, aw, au, az, ay, bb, bc, ba, be, bd, bf]; done) (by simp [k, b, e, a, f, g, m, j, i, o, q, u, v, w, y, aa, ab, ad, ae, ac, ag, af, ai, ak, am, aj, ap, ao, aq, av, aw, au, az, ay, bb, bc, ba, be, bd, bf]; done) (by simp [k, b, e, a, f, g, m, j, i, o, q, u, v, w, y, aa, ab, ad, ae, ac, ag, af, ai, ak, am, aj, ap, ao, aq, av, aw, au, az, ay, bb, bc, ba, be, bd, bf]; done))
                            | (exact AvLe.list' (by simp [k, b, e, a, f, g, m, j, i, o, q, u, v, w, y, aa, ab, ad, ae, ac, ag, af, ai, ak, am, aj, ap, ao, aq, av, aw, au, az, ay, bb, bc, ba, be, bd, bf]; done) (by simp [k, b, e, a, f, g, m, j, i, o, q, u, v, w, y, aa, ab, ad, ae, ac, ag, af, ai, ak, am, aj, ap, ao, aq, av, aw, au, az, ay, bb, bc, ba, be, bd, bf]; done))
                            | (exact AvLe.eq (by simp [k, b, e, a, f, g, m, j, i, o, q, u, v, w, y, aa, ab, ad, ae, ac, ag, af, ai, ak, am, aj, ap, ao, aq, av, aw, au, az, ay, bb, bc, ba, be, bd, bf]; done) rfl)
                        · rw [if_pos bf] at h
                          refine regI_upto 1 (r := ?_) ?_ ?_ ?_
                          rotate_left
                          · simp [List.range, List.range.loop, k, b, e, a, f, g, m, j, i, o, q, u, v, w, y, aa, ab, ad, ae, ac, ag, af, ai, ak, am, aj, ap, ao, aq, av, aw, au, az, ay, bb, bc, ba, be, bd, bf]; rfl
                          · first | (simp [k, b, e, a, f, g, m, j, i, o, q, u, v, w, y, aa, ab, ad, ae, ac, ag, af, ai, ak, am, aj, ap, ao, aq, av, aw, au, az, ay, bb, bc, ba, be, bd, bf] <;> omega) | (have hq := bf; simp at hq; simp [k, b, e, a, f, g, m, j, i, o, q, u, v, w, y, aa, ab, ad, ae, ac, ag, af, ai, ak, am, aj, ap, ao, aq, av, aw, au, az, ay, bb, bc, ba, be, bd, bf, hq]; done) | skip
                          refine regI_upto 1 (r := ?_) ?_ ?_ ?_
                          rotate_left
                          · simp [List.range, List.range.loop, k, b, e, a, f, g, m, j, i, o, q, u, v, w, y, aa, ab, ad, ae, ac, ag, af, ai, ak, am, aj, ap, ao, aq, av, aw, au, az, ay, bb, bc, ba, be, bd, bf]; rfl
                          · first | (simp [k, b, e, a, f, g, m, j, i, o, q, u, v, w, y, aa, ab, ad, ae, ac, ag, af, ai, ak, am, aj, ap, ao, aq, av, aw, au, az, ay, bb, bc, ba, be, bd, bf] <;> omega) | (have hq := bf; simp at hq; simp [k, b, e, a, f, g, m, j, i, o, q, u, v, w, y, aa, ab, ad, ae, ac, ag, af, ai, ak, am, aj, ap, ao, aq, av, aw, au, az, ay, bb, bc, ba, be, bd, bf, hq]; done) | skip
                          refine regI_upto 1 (r := ?_) ?_ ?_ ?_
                          rotate_left
                          · simp [List.range, List.range.loop, k, b, e, a, f, g, m, j, i, o, q, u, v, w, y, aa, ab, ad, ae, ac, ag, af, ai, ak, am, aj, ap, ao, aq, av, aw, au, az, ay, bb, bc, ba, be, bd, bf]; rfl
                          · first | (simp [k, b, e, a, f, g, m, j, i, o, q, u, v, w, y, aa, ab, ad, ae, ac, ag, af, ai, ak, am, aj, ap, ao, aq, av, aw, au, az, ay, bb, bc, ba, be, bd, bf] <;> omega) | (have hq := bf; simp at hq; simp [k, b, e, a, f, g, m, j, i, o, q, u, v, w, y, aa, ab, ad, ae, ac, ag, af, ai, ak, am, aj, ap, ao, aq, av, aw, au, az, ay, bb, bc, ba, be, bd, bf, hq]; done) | skip
                          refine regI_upto 1 (r := ?_) ?_ ?_ ?_
                          rotate_left
                          · simp [List.range, List.range.loop, k, b, e, a, f, g, m, j, i, o, q, u, v, w, y, aa, ab, ad, ae, ac, ag, af, ai, ak, am, aj, ap, ao, aq, av, aw, au, az, ay, bb, bc, ba, be, bd, bf]; rfl
                          · first | (simp [k, b, e, a, f, g, m, j, i, o, q, u, v, w, y, aa, ab, ad, ae, ac, ag, af, ai, ak, am, aj, ap, ao, aq, av, aw, au, az, ay, bb, bc, ba, be, bd, bf] <;> omega) | (have hq := bf; simp at hq; simp [k, b, e, a, f, g, m, j, i, o, q, u, v, w, y, aa, ab, ad, ae, ac, ag, af, ai, ak, am, aj, ap, ao, aq, av, aw, au, az, ay, bb, bc, ba, be, bd, bf, hq]; done) | skip
                          obtain ⟨dc, cm, h⟩ := obind h
                          refine regI_call2 (s1 := ?_) (p := ?_) (con_slices_Equal_bool cm) rfl rfl rfl rfl ?_ ?_ ?_ (fun _ => rfl) ?_ rfl ?_ ?_
                          rotate_left 2
                          · simp [k, b, e, a, f, g, m, j, i, o, q, u, v, w, y, aa, ab, ad, ae, ac, ag, af, ai, ak, am, aj, ap, ao, aq, av, aw, au, az, ay, bb, bc, ba, be, bd, bf]; rfl
                          · first | exact .inl rfl | (refine .inl ?_; simp [k, b, e, a, f, g, m, j, i, o, q, u, v, w, y, aa, ab, ad, ae, ac, ag, af, ai, ak, am, aj, ap, ao, aq, av, aw, au, az, ay, bb, bc, ba, be, bd, bf]; done) | (refine .inr ?_; dsimp only; repeat' first | exact All2.nil | refine All2.cons ?_ ?_ | exact AvLe.refl _ rfl | refine AvLe.aggs ?_) <;> first | exact AvLe.refl _ rfl | exact AvLe.nil _ | exact AvLe.znil _ | exact AvLe.list' (by first | (simp [k, b, e, a, f, g, m, j, i, o, q, u, v, w, y, aa, ab, ad, ae, ac, ag, af, ai, ak, am, aj, ap, ao, aq, av, aw, au, az, ay, bb, bc, ba, be, bd, bf] <;> omega)) (by simp [k, b, e, a, f, g, m, j, i, o, q, u, v, w, y, aa, ab, ad, ae, ac, ag, af, ai, ak, am, aj, ap, ao, aq, av, aw, au, az, ay, bb, bc, ba, be, bd, bf]; done) | exact AvLe.eq (by simp [k, b, e, a, f, g, m, j, i, o, q, u, v, w, y, aa, ab, ad, ae, ac, ag, af, ai, ak, am, aj, ap, ao, aq, av, aw, au, az, ay, bb, bc, ba, be, bd, bf]; done) rfl
                          · first | (simp [k, b, e, a, f, g, m, j, i, o, q, u, v, w, y, aa, ab, ad, ae, ac, ag, af, ai, ak, am, aj, ap, ao, aq, av, aw, au, az, ay, bb, bc, ba, be, bd, bf] <;> omega) | (have hq := bf; simp at hq; simp [k, b, e, a, f, g, m, j, i, o, q, u, v, w, y, aa, ab, ad, ae, ac, ag, af, ai, ak, am, aj, ap, ao, aq, av, aw, au, az, ay, bb, bc, ba, be, bd, bf, hq]; done) | skip
                          · simp
                          · simp [k, b, e, a, f, g, m, j, i, o, q, u, v, w, y, aa, ab, ad, ae, ac, ag, af, ai, ak, am, aj, ap, ao, aq, av, aw, au, az, ay, bb, bc, ba, be, bd, bf]; rfl
                          refine regI_upto 2 (r := ?_) ?_ ?_ ?_
                          rotate_left
                          · simp [List.range, List.range.loop, k, b, e, a, f, g, m, j, i, o, q, u, v, w, y, aa, ab, ad, ae, ac, ag, af, ai, ak, am, aj, ap, ao, aq, av, aw, au, az, ay, bb, bc, ba, be, bd, bf]; rfl
                          · first | (simp [k, b, e, a, f, g, m, j, i, o, q, u, v, w, y, aa, ab, ad, ae, ac, ag, af, ai, ak, am, aj, ap, ao, aq, av, aw, au, az, ay, bb, bc, ba, be, bd, bf] <;> omega) | (have hq := bf; simp at hq; simp [k, b, e, a, f, g, m, j, i, o, q, u, v, w, y, aa, ab, ad, ae, ac, ag, af, ai, ak, am, aj, ap, ao, aq, av, aw, au, az, ay, bb, bc, ba, be, bd, bf, hq]; done) | skip
                          refine (Bool.eq_false_or_eq_true dc).symm.elim (fun bg => ?_) (fun bg => ?_)
                          · rw [if_neg (by rw [bg]; simp)] at h
                            refine regI_skip (s1 := ?_) rfl rfl ?_ ?_ ?_
                            rotate_left
                            · simp [k, b, e, a, f, g, m, j, i, o, q, u, v, w, y, aa, ab, ad, ae, ac, ag, af, ai, ak, am, aj, ap, ao, aq, av, aw, au, az, ay, bb, bc, ba, be, bd, bf, bg]; done
                            · simp [k, b, e, a, f, g, m, j, i, o, q, u, v, w, y, aa, ab, ad, ae, ac, ag, af, ai, ak, am, aj, ap, ao, aq, av, aw, au, az, ay, bb, bc, ba, be, bd, bf, bg]; rfl
                            refine regI_skip (s1 := ?_) rfl rfl ?_ ?_ ?_
                            rotate_left
                            · simp [k, b, e, a, f, g, m, j, i, o, q, u, v, w, y, aa, ab, ad, ae, ac, ag, af, ai, ak, am, aj, ap, ao, aq, av, aw, au, az, ay, bb, bc, ba, be, bd, bf, bg]; done
                            · simp [k, b, e, a, f, g, m, j, i, o, q, u, v, w, y, aa, ab, ad, ae, ac, ag, af, ai, ak, am, aj, ap, ao, aq, av, aw, au, az, ay, bb, bc, ba, be, bd, bf, bg]; rfl
                            refine regI_skip (s1 := ?_) rfl rfl ?_ ?_ ?_
                            rotate_left
                            · simp [k, b, e, a, f, g, m, j, i, o, q, u, v, w, y, aa, ab, ad, ae, ac, ag, af, ai, ak, am, aj, ap, ao, aq, av, aw, au, az, ay, bb, bc, ba, be, bd, bf, bg]; done
                            · simp [k, b, e, a, f, g, m, j, i, o, q, u, v, w, y, aa, ab, ad, ae, ac, ag, af, ai, ak, am, aj, ap, ao, aq, av, aw, au, az, ay, bb, bc, ba, be, bd, bf, bg]; rfl
                            refine regI_skip (s1 := ?_) rfl rfl ?_ ?_ ?_
                            rotate_left
                            · simp [k, b, e, a, f, g, m, j, i, o, q, u, v, w, y, aa, ab, ad, ae, ac, ag, af, ai, ak, am, aj, ap, ao, aq, av, aw, au, az, ay, bb, bc, ba, be, bd, bf, bg]; done
                            · simp [k, b, e, a, f, g, m, j, i, o, q, u, v, w, y, aa, ab, ad, ae, ac, ag, af, ai, ak, am, aj, ap, ao, aq, av, aw, au, az, ay, bb, bc, ba, be, bd, bf, bg]; rfl
                            refine regI_skip (s1 := ?_) rfl rfl ?_ ?_ ?_
                            rotate_left
                            · simp [k, b, e, a, f, g, m, j, i, o, q, u, v, w, y, aa, ab, ad, ae, ac, ag, af, ai, ak, am, aj, ap, ao, aq, av, aw, au, az, ay, bb, bc, ba, be, bd, bf, bg]; done
                            · simp [k, b, e, a, f, g, m, j, i, o, q, u, v, w, y, aa, ab, ad, ae, ac, ag, af, ai, ak, am, aj, ap, ao, aq, av, aw, au, az, ay, bb, bc, ba, be, bd, bf, bg]; rfl
                            refine regI_upto 2 (r := ?_) ?_ ?_ ?_
                            rotate_left
                            · simp [List.range, List.range.loop, k, b, e, a, f, g, m, j, i, o, q, u, v, w, y, aa, ab, ad, ae, ac, ag, af, ai, ak, am, aj, ap, ao, aq, av, aw, au, az, ay, bb, bc, ba, be, bd, bf, bg]; rfl
                            · first | (simp [k, b, e, a, f, g, m, j, i, o, q, u, v, w, y, aa, ab, ad, ae, ac, ag, af, ai, ak, am, aj, ap, ao, aq, av, aw, au, az, ay, bb, bc, ba, be, bd, bf, bg] <;> omega) | (have hq := bg; simp at hq; simp [k, b, e, a, f, g, m, j, i, o, q, u, v, w, y, aa, ab, ad, ae, ac, ag, af, ai, ak, am, aj, ap, ao, aq, av, aw, au, az, ay, bb, bc, ba, be, bd, bf, bg, hq]; done) | skip
                            refine regI_nil ?_
                            cases h
                            refine Wp.ret (endQ_ret0 rfl ?_)
                            repeat' first | exact All2.nil | refine All2.cons ?_ ?_ | refine AvLe.tups ?_ | refine AvLe.aggs ?_
                            all_goals first
                              | (exact AvLe.refl _ rfl)
                              | (exact AvLe.nil _)
                              | (exact AvLe.znil _)
                              | (exact AvLe.ghost _ rfl)
                              | (exact AvLe.zghost _ rfl)
                              | (exact AvLe.sl' rfl (by simp [k, b, e, a, f, g, m, j, i, o, q, u, v, w, y, aa, ab, ad, ae, ac, ag, af, ai, ak, am, aj, ap, ao, aq, av, aw, au, az, ay, bb, bc, ba, be, bd, bf, bg]; done) (by simp [k, b, e, a, f, g, m, j, i, o, q, u, v, w, y, aa, ab, ad, ae, ac, ag, af, ai, ak, am, aj, ap, ao, aq, av, aw, au, az, ay, bb, bc, ba, be, bd, bf, bg]; done))
                              | (exact AvLe.frz' rfl rfl rfl (by simp [k, b, e, a, f, g, m, j, i, o, q, u, v, w, y, aa, ab, ad, ae, ac, ag, af, ai, ak, am, aj, ap, ao, aq, av, aw, au, az, ay, bb, bc, ba, be, bd, bf, bg]; done) (by simp [k, b, e, a, f, g, m, j, i, o, q, u, v, w, y, aa, ab, ad, ae, ac, ag, af, ai, ak, am, aj, ap, ao, aq, av, aw, au, az, ay, bb, bc, ba, be, bd, bf, bg]; done) (by simp [k, b, e, a, f, g, m, j, i, o, q, u, v, w, y, aa, ab, ad, ae, ac, ag, af, ai, ak, am, aj, ap, ao, aq, av, aw, au, az, ay, bb, bc, ba, be, bd, bf, bg]; done))
                              | (exact AvLe.list' (by simp [k, b, e, a, f, g, m, j, i, o, q, u, v, w, y, aa, ab, ad, ae, ac, ag, af, ai, ak, am, aj, ap, ao, aq, av, aw, au, az, ay, bb, bc, ba, be, bd, bf, bg]; done) (by simp [k, b, e, a, f, g, m, j, i, o, q, u, v, w, y, aa, ab, ad, ae, ac, ag, af, ai, ak, am, aj, ap, ao, aq, av, aw, au, az, ay, bb, bc, ba, be, bd, bf, bg]; done))
                              | (exact AvLe.eq (by simp [k, b, e, a, f, g, m, j, i, o, q, u, v, w, y, aa, ab, ad, ae, ac, ag, af, ai, ak, am, aj, ap, ao, aq, av, aw, au, az, ay, bb, bc, ba, be, bd, bf, bg]; done) rfl)
                          · rw [if_pos bg] at h
                            refine regI_upto 1 (r := ?_) ?_ ?_ ?_
                            rotate_left
                            · simp [List.range, List.range.loop, k, b, e, a, f, g, m, j, i, o, q, u, v, w, y, aa, ab, ad, ae, ac, ag, af, ai, ak, am, aj, ap, ao, aq, av, aw, au, az, ay, bb, bc, ba, be, bd, bf, bg]; rfl
                            · first | (simp [k, b, e, a, f, g, m, j, i, o, q, u, v, w, y, aa, ab, ad, ae, ac, ag, af, ai, ak, am, aj, ap, ao, aq, av, aw, au, az, ay, bb, bc, ba, be, bd, bf, bg] <;> omega) | (have hq := bg; simp at hq; simp [k, b, e, a, f, g, m, j, i, o, q, u, v, w, y, aa, ab, ad, ae, ac, ag, af, ai, ak, am, aj, ap, ao, aq, av, aw, au, az, ay, bb, bc, ba, be, bd, bf, bg, hq]; done) | skip
                            refine regI_upto 1 (r := ?_) ?_ ?_ ?_
                            rotate_left
                            · simp [List.range, List.range.loop, k, b, e, a, f, g, m, j, i, o, q, u, v, w, y, aa, ab, ad, ae, ac, ag, af, ai, ak, am, aj, ap, ao, aq, av, aw, au, az, ay, bb, bc, ba, be, bd, bf, bg]; rfl
                            · first | (simp [k, b, e, a, f, g, m, j, i, o, q, u, v, w, y, aa, ab, ad, ae, ac, ag, af, ai, ak, am, aj, ap, ao, aq, av, aw, au, az, ay, bb, bc, ba, be, bd, bf, bg] <;> omega) | (have hq := bg; simp at hq; simp [k, b, e, a, f, g, m, j, i, o, q, u, v, w, y, aa, ab, ad, ae, ac, ag, af, ai, ak, am, aj, ap, ao, aq, av, aw, au, az, ay, bb, bc, ba, be, bd, bf, bg, hq]; done) | skip
                            refine regI_upto 1 (r := ?_) ?_ ?_ ?_
                            rotate_left
                            · simp [List.range, List.range.loop, k, b, e, a, f, g, m, j, i, o, q, u, v, w, y, aa, ab, ad, ae, ac, ag, af, ai, ak, am, aj, ap, ao, aq, av, aw, au, az, ay, bb, bc, ba, be, bd, bf, bg]; rfl
                            · first | (simp [k, b, e, a, f, g, m, j, i, o, q, u, v, w, y, aa, ab, ad, ae, ac, ag, af, ai, ak, am, aj, ap, ao, aq, av, aw, au, az, ay, bb, bc, ba, be, bd, bf, bg] <;> omega) | (have hq := bg; simp at hq; simp [k, b, e, a, f, g, m, j, i, o, q, u, v, w, y, aa, ab, ad, ae, ac, ag, af, ai, ak, am, aj, ap, ao, aq, av, aw, au, az, ay, bb, bc, ba, be, bd, bf, bg, hq]; done) | skip
                            refine regI_upto 1 (r := ?_) ?_ ?_ ?_
                            rotate_left
                            · simp [List.range, List.range.loop, k, b, e, a, f, g, m, j, i, o, q, u, v, w, y, aa, ab, ad, ae, ac, ag, af, ai, ak, am, aj, ap, ao, aq, av, aw, au, az, ay, bb, bc, ba, be, bd, bf, bg]; rfl
                            · first | (simp [k, b, e, a, f, g, m, j, i, o, q, u, v, w, y, aa, ab, ad, ae, ac, ag, af, ai, ak, am, aj, ap, ao, aq, av, aw, au, az, ay, bb, bc, ba, be, bd, bf, bg] <;> omega) | (have hq := bg; simp at hq; simp [k, b, e, a, f, g, m, j, i, o, q, u, v, w, y, aa, ab, ad, ae, ac, ag, af, ai, ak, am, aj, ap, ao, aq, av, aw, au, az, ay, bb, bc, ba, be, bd, bf, bg, hq]; done) | skip
                            obtain ⟨dk, co, h⟩ := obind h
                            refine regI_call2 (s1 := ?_) (p := ?_) (con_slices_Equal_bool co) rfl rfl rfl rfl ?_ ?_ ?_ (fun _ => rfl) ?_ rfl ?_ ?_
                            rotate_left 2
                            · simp [k, b, e, a, f, g, m, j, i, o, q, u, v, w, y, aa, ab, ad, ae, ac, ag, af, ai, ak, am, aj, ap, ao, aq, av, aw, au, az, ay, bb, bc, ba, be, bd, bf, bg]; rfl
                            · first | exact .inl rfl | (refine .inl ?_; simp [k, b, e, a, f, g, m, j, i, o, q, u, v, w, y, aa, ab, ad, ae, ac, ag, af, ai, ak, am, aj, ap, ao, aq, av, aw, au, az, ay, bb, bc, ba, be, bd, bf, bg]; done) | (refine .inr ?_; dsimp only; repeat' first | exact All2.nil | refine All2.cons ?_ ?_ | exact AvLe.refl _ rfl | refine AvLe.aggs ?_) <;> first | exact AvLe.refl _ rfl | exact AvLe.nil _ | exact AvLe.znil _ | exact AvLe.list' (by first | (simp [k, b, e, a, f, g, m, j, i, o, q, u, v, w, y, aa, ab, ad, ae, ac, ag, af, ai, ak, am, aj, ap, ao, aq, av, aw, au, az, ay, bb, bc, ba, be, bd, bf, bg] <;> omega)) (by simp [k, b, e, a, f, g, m, j, i, o, q, u, v, w, y, aa, ab, ad, ae, ac, ag, af, ai, ak, am, aj, ap, ao, aq, av, aw, au, az, ay, bb, bc, ba, be, bd, bf, bg]; done) | exact AvLe.eq (by simp [k, b, e, a, f, g, m, j, i, o, q, u, v, w, y, aa, ab, ad, ae, ac, ag, af, ai, ak, am, aj, ap, ao, aq, av, aw, au, az, ay, bb, bc, ba, be, bd, bf, bg]; done) rfl
                            · first | (simp [k, b, e, a, f, g, m, j, i, o, q, u, v, w, y, aa, ab, ad, ae, ac, ag, af, ai, ak, am, aj, ap, ao, aq, av, aw, au, az, ay, bb, bc, ba, be, bd, bf, bg] <;> omega) | (have hq := bg; simp at hq; simp [k, b, e, a, f, g, m, j, i, o, q, u, v, w, y, aa, ab, ad, ae, ac, ag, af, ai, ak, am, aj, ap, ao, aq, av, aw, au, az, ay, bb, bc, ba, be, bd, bf, bg, hq]; done) | skip
                            · simp
                            · simp [k, b, e, a, f, g, m, j, i, o, q, u, v, w, y, aa, ab, ad, ae, ac, ag, af, ai, ak, am, aj, ap, ao, aq, av, aw, au, az, ay, bb, bc, ba, be, bd, bf, bg]; rfl
                            refine regI_upto 2 (r := ?_) ?_ ?_ ?_
                            rotate_left
                            · simp [List.range, List.range.loop, k, b, e, a, f, g, m, j, i, o, q, u, v, w, y, aa, ab, ad, ae, ac, ag, af, ai, ak, am, aj, ap, ao, aq, av, aw, au, az, ay, bb, bc, ba, be, bd, bf, bg]; rfl
                            · first | (simp [k, b, e, a, f, g, m, j, i, o, q, u, v, w, y, aa, ab, ad, ae, ac, ag, af, ai, ak, am, aj, ap, ao, aq, av, aw, au, az, ay, bb, bc, ba, be, bd, bf, bg] <;> omega) | (have hq := bg; simp at hq; simp [k, b, e, a, f, g, m, j, i, o, q, u, v, w, y, aa, ab, ad, ae, ac, ag, af, ai, ak, am, aj, ap, ao, aq, av, aw, au, az, ay, bb, bc, ba, be, bd, bf, bg, hq]; done) | skip
                            refine regI_nil ?_
                            cases h
                            refine Wp.ret (endQ_ret0 rfl ?_)
                            repeat' first | exact All2.nil | refine All2.cons ?_ ?_ | refine AvLe.tups ?_ | refine AvLe.aggs ?_
                            all_goals first
                              | (exact AvLe.refl _ rfl)
                              | (exact AvLe.nil _)
                              | (exact AvLe.znil _)
                              | (exact AvLe.ghost _ rfl)
                              | (exact AvLe.zghost _ rfl)
                              | (exact AvLe.sl' rfl (by simp [k, b, e, a, f, g, m, j, i, o, q, u, v, w, y, aa, ab, ad, ae, ac, ag, af, ai, ak, am, aj, ap, ao, aq, av, aw, au, az, ay, bb, bc, ba, be, bd, bf, bg]; done) (by simp [k, b, e, a, f, g, m, j, i, o, q, u, v, w, y, aa, ab, ad, ae, ac, ag, af, ai, ak, am, aj, ap, ao, aq, av, aw, au, az, ay, bb, bc, ba, be, bd, bf, bg]; done))
                              | (exact AvLe.frz' rfl rfl rfl (by simp [k, b, e, a, f, g, m, j, i, o, q, u, v, w, y, aa, ab, ad, ae, ac, ag, af, ai, ak, am, aj, ap, ao, aq, av, aw, au, az, ay, bb, bc, ba, be, bd, bf, bg]; done) (by simp [k, b, e, a, f, g, m, j, i, o, q, u, v, w, y, aa, ab, ad, ae, ac, ag, af, ai, ak, am, aj, ap, ao, aq, av, aw, au, az, ay, bb, bc, ba, be, bd, bf, bg]; done) (by simp [k, b, e, a, f, g, m, j, i, o, q, u, v, w, y, aa, ab, ad, ae, ac, ag, af, ai, ak, am, aj, ap, ao, aq, av, aw, au, az, ay, bb, bc, ba, be, bd, bf, bg]; done))
                              | (exact AvLe.list' (by simp [k, b, e, a, f, g, m, j, i, o, q, u, v, w, y, aa, ab, ad, ae, ac, ag, af, ai, ak, am, aj, ap, ao, aq, av, aw, au, az, ay, bb, bc, ba, be, bd, bf, bg]; done) (by simp [k, b, e, a, f, g, m, j, i, o, q, u, v, w, y, aa, ab, ad, ae, ac, ag, af, ai, ak, am, aj, ap, ao, aq, av, aw, au, az, ay, bb, bc, ba, be, bd, bf, bg]; done))
                              | (exact AvLe.eq (by simp [k, b, e, a, f, g, m, j, i, o, q, u, v, w, y, aa, ab, ad, ae, ac, ag, af, ai, ak, am, aj, ap, ao, aq, av, aw, au, az, ay, bb, bc, ba, be, bd, bf, bg]; done) rfl)
                · rw [if_pos (decide_eq_true aa)] at h
                  refine Wp.cond true (by first | (simp [k, b, e, a, f, g, m, j, i, o, q, u, v, w, y, aa] <;> omega) | (have hq := aa; simp at hq; simp [k, b, e, a, f, g, m, j, i, o, q, u, v, w, y, aa, hq]; done)) (fun _ => ?_) (fun h0 => absurd h0 (by decide))
                  refine Wp.reg_seq (own := fun _ => false) tt_ok ?_
                  iterate 1
                    refine regv_pure (s1 := ?_) rfl rfl ?_ ?_ ?_
                    rotate_left
                    · simp [k, b, e, a, f, g, m, j, i, o, q, u, v, w, y, aa]; rfl
                    · first | (simp [k, b, e, a, f, g, m, j, i, o, q, u, v, w, y, aa] <;> omega) | (have hq := aa; simp at hq; simp [k, b, e, a, f, g, m, j, i, o, q, u, v, w, y, aa, hq]; done) | skip
                  refine regv_nil ?_
                  cases h
                  refine Wp.ret (endQ_ret0 rfl ?_)
                  repeat' first | exact All2.nil | refine All2.cons ?_ ?_ | refine AvLe.tups ?_ | refine AvLe.aggs ?_
                  all_goals first
                    | (exact AvLe.refl _ rfl)
                    | (exact AvLe.nil _)
                    | (exact AvLe.znil _)
                    | (exact AvLe.ghost _ rfl)
                    | (exact AvLe.zghost _ rfl)
                    | (exact AvLe.sl' rfl (by simp [k, b, e, a, f, g, m, j, i, o, q, u, v, w, y, aa]; done) (by simp [k, b, e, a, f, g, m, j, i, o, q, u, v, w, y, aa]; done))
                    | (exact AvLe.frz' rfl rfl rfl (by simp [k, b, e, a, f, g, m, j, i, o, q, u, v, w, y, aa]; done) (by simp [k, b, e, a, f, g, m, j, i, o, q, u, v, w, y, aa]; done) (by simp [k, b, e, a, f, g, m, j, i, o, q, u, v, w, y, aa]; done))
                    | (exact AvLe.list' (by simp [k, b, e, a, f, g, m, j, i, o, q, u, v, w, y, aa]; done) (by simp [k, b, e, a, f, g, m, j, i, o, q, u, v, w, y, aa]; done))
                    | (exact AvLe.eq (by simp [k, b, e, a, f, g, m, j, i, o, q, u, v, w, y, aa]; done) rfl)
              · rw [if_pos (decide_eq_true y)] at h
                refine regv_skip (s1 := ?_) ?_ ?_ ?_
                rotate_left
                · simp [k, b, e, a, f, g, m, j, i, o, q, u, v, w, y]; done
                · simp [k, b, e, a, f, g, m, j, i, o, q, u, v, w, y]; rfl
                refine regv_skip (s1 := ?_) ?_ ?_ ?_
                rotate_left
                · simp [k, b, e, a, f, g, m, j, i, o, q, u, v, w, y]; done
                · simp [k, b, e, a, f, g, m, j, i, o, q, u, v, w, y]; rfl
                refine regv_skip (s1 := ?_) ?_ ?_ ?_
                rotate_left
                · simp [k, b, e, a, f, g, m, j, i, o, q, u, v, w, y]; done
                · simp [k, b, e, a, f, g, m, j, i, o, q, u, v, w, y]; rfl
                refine regv_skip (s1 := ?_) ?_ ?_ ?_
                rotate_left
                · simp [k, b, e, a, f, g, m, j, i, o, q, u, v, w, y]; done
                · simp [k, b, e, a, f, g, m, j, i, o, q, u, v, w, y]; rfl
                refine regv_skip (s1 := ?_) ?_ ?_ ?_
                rotate_left
                · simp [k, b, e, a, f, g, m, j, i, o, q, u, v, w, y]; done
                · simp [k, b, e, a, f, g, m, j, i, o, q, u, v, w, y]; rfl
                iterate 1
                  refine regv_pure (s1 := ?_) rfl rfl ?_ ?_ ?_
                  rotate_left
                  · simp [k, b, e, a, f, g, m, j, i, o, q, u, v, w, y]; rfl
                  · first | (simp [k, b, e, a, f, g, m, j, i, o, q, u, v, w, y] <;> omega) | (have hq := y; simp at hq; simp [k, b, e, a, f, g, m, j, i, o, q, u, v, w, y, hq]; done) | skip
                refine regv_nil ?_
                refine Wp.cond true (by first | (simp [k, b, e, a, f, g, m, j, i, o, q, u, v, w, y] <;> omega) | (have hq := y; simp at hq; simp [k, b, e, a, f, g, m, j, i, o, q, u, v, w, y, hq]; done)) (fun _ => ?_) (fun h0 => absurd h0 (by decide))
                refine Wp.reg_seq (own := fun _ => false) tt_ok ?_
                iterate 1
                  refine regv_pure (s1 := ?_) rfl rfl ?_ ?_ ?_
                  rotate_left
                  · simp [k, b, e, a, f, g, m, j, i, o, q, u, v, w, y]; rfl
                  · first | (simp [k, b, e, a, f, g, m, j, i, o, q, u, v, w, y] <;> omega) | (have hq := y; simp at hq; simp [k, b, e, a, f, g, m, j, i, o, q, u, v, w, y, hq]; done) | skip
                refine regv_nil ?_
                cases h
                refine Wp.ret (endQ_ret0 rfl ?_)
                repeat' first | exact All2.nil | refine All2.cons ?_ ?_ | refine AvLe.tups ?_ | refine AvLe.aggs ?_
                all_goals first
                  | (exact AvLe.refl _ rfl)
                  | (exact AvLe.nil _)
                  | (exact AvLe.znil _)
                  | (exact AvLe.ghost _ rfl)
                  | (exact AvLe.zghost _ rfl)
                  | (exact AvLe.sl' rfl (by simp [k, b, e, a, f, g, m, j, i, o, q, u, v, w, y]; done) (by simp [k, b, e, a, f, g, m, j, i, o, q, u, v, w, y]; done))
                  | (exact AvLe.frz' rfl rfl rfl (by simp [k, b, e, a, f, g, m, j, i, o, q, u, v, w, y]; done) (by simp [k, b, e, a, f, g, m, j, i, o, q, u, v, w, y]; done) (by simp [k, b, e, a, f, g, m, j, i, o, q, u, v, w, y]; done))
                  | (exact AvLe.list' (by simp [k, b, e, a, f, g, m, j, i, o, q, u, v, w, y]; done) (by simp [k, b, e, a, f, g, m, j, i, o, q, u, v, w, y]; done))
                  | (exact AvLe.eq (by simp [k, b, e, a, f, g, m, j, i, o, q, u, v, w, y]; done) rfl)
            · rw [w, if_pos rfl] at h
              refine regv_skip (s1 := ?_) ?_ ?_ ?_
              rotate_left
              · simp [k, b, e, a, f, g, m, j, i, o, q, u, v, w]; done
              · simp [k, b, e, a, f, g, m, j, i, o, q, u, v, w]; rfl
              refine regv_skip (s1 := ?_) ?_ ?_ ?_
              rotate_left
              · simp [k, b, e, a, f, g, m, j, i, o, q, u, v, w]; done
              · simp [k, b, e, a, f, g, m, j, i, o, q, u, v, w]; rfl
              iterate 2
                refine regv_pure (s1 := ?_) rfl rfl ?_ ?_ ?_
                rotate_left
                · simp [k, b, e, a, f, g, m, j, i, o, q, u, v, w]; rfl
                · first | (simp [k, b, e, a, f, g, m, j, i, o, q, u, v, w] <;> omega) | (have hq := w; simp at hq; simp [k, b, e, a, f, g, m, j, i, o, q, u, v, w, hq]; done) | skip
              refine regv_skip (s1 := ?_) ?_ ?_ ?_
              rotate_left
              · simp [k, b, e, a, f, g, m, j, i, o, q, u, v, w]; done
              · simp [k, b, e, a, f, g, m, j, i, o, q, u, v, w]; rfl
              refine regv_skip (s1 := ?_) ?_ ?_ ?_
              rotate_left
              · simp [k, b, e, a, f, g, m, j, i, o, q, u, v, w]; done
              · simp [k, b, e, a, f, g, m, j, i, o, q, u, v, w]; rfl
              refine regv_skip (s1 := ?_) ?_ ?_ ?_
              rotate_left
              · simp [k, b, e, a, f, g, m, j, i, o, q, u, v, w]; done
              · simp [k, b, e, a, f, g, m, j, i, o, q, u, v, w]; rfl
              refine regv_skip (s1 := ?_) ?_ ?_ ?_
              rotate_left
              · simp [k, b, e, a, f, g, m, j, i, o, q, u, v, w]; done
              · simp [k, b, e, a, f, g, m, j, i, o, q, u, v, w]; rfl
              refine regv_skip (s1 := ?_) ?_ ?_ ?_
              rotate_left
              · simp [k, b, e, a, f, g, m, j, i, o, q, u, v, w]; done
              · simp [k, b, e, a, f, g, m, j, i, o, q, u, v, w]; rfl
              iterate 1
                refine regv_pure (s1 := ?_) rfl rfl ?_ ?_ ?_
                rotate_left
                · simp [k, b, e, a, f, g, m, j, i, o, q, u, v, w]; rfl
                · first | (simp [k, b, e, a, f, g, m, j, i, o, q, u, v, w] <;> omega) | (have hq := w; simp at hq; simp [k, b, e, a, f, g, m, j, i, o, q, u, v, w, hq]; done) | skip
              refine regv_nil ?_
              refine Wp.cond true (by first | (simp [k, b, e, a, f, g, m, j, i, o, q, u, v, w] <;> omega) | (have hq := w; simp at hq; simp [k, b, e, a, f, g, m, j, i, o, q, u, v, w, hq]; done)) (fun _ => ?_) (fun h0 => absurd h0 (by decide))
              refine Wp.reg_seq (own := fun _ => false) tt_ok ?_
              iterate 1
                refine regv_pure (s1 := ?_) rfl rfl ?_ ?_ ?_
                rotate_left
                · simp [k, b, e, a, f, g, m, j, i, o, q, u, v, w]; rfl
                · first | (simp [k, b, e, a, f, g, m, j, i, o, q, u, v, w] <;> omega) | (have hq := w; simp at hq; simp [k, b, e, a, f, g, m, j, i, o, q, u, v, w, hq]; done) | skip
              refine regv_nil ?_
              cases h
              refine Wp.ret (endQ_ret0 rfl ?_)
              repeat' first | exact All2.nil | refine All2.cons ?_ ?_ | refine AvLe.tups ?_ | refine AvLe.aggs ?_
              all_goals first
                | (exact AvLe.refl _ rfl)
                | (exact AvLe.nil _)
                | (exact AvLe.znil _)
                | (exact AvLe.ghost _ rfl)
                | (exact AvLe.zghost _ rfl)
                | (exact AvLe.sl' rfl (by simp [k, b, e, a, f, g, m, j, i, o, q, u, v, w]; done) (by simp [k, b, e, a, f, g, m, j, i, o, q, u, v, w]; done))
                | (exact AvLe.frz' rfl rfl rfl (by simp [k, b, e, a, f, g, m, j, i, o, q, u, v, w]; done) (by simp [k, b, e, a, f, g, m, j, i, o, q, u, v, w]; done) (by simp [k, b, e, a, f, g, m, j, i, o, q, u, v, w]; done))
                | (exact AvLe.list' (by simp [k, b, e, a, f, g, m, j, i, o, q, u, v, w]; done) (by simp [k, b, e, a, f, g, m, j, i, o, q, u, v, w]; done))
                | (exact AvLe.eq (by simp [k, b, e, a, f, g, m, j, i, o, q, u, v, w]; done) rfl)
          · rw [v, if_pos rfl] at h
            refine regv_skip (s1 := ?_) ?_ ?_ ?_
            rotate_left
            · simp [k, b, e, a, f, g, m, j, i, o, q, u, v]; done
            · simp [k, b, e, a, f, g, m, j, i, o, q, u, v]; rfl
            refine regv_skip (s1 := ?_) ?_ ?_ ?_
            rotate_left
            · simp [k, b, e, a, f, g, m, j, i, o, q, u, v]; done
            · simp [k, b, e, a, f, g, m, j, i, o, q, u, v]; rfl
            refine regv_skip (s1 := ?_) ?_ ?_ ?_
            rotate_left
            · simp [k, b, e, a, f, g, m, j, i, o, q, u, v]; done
            · simp [k, b, e, a, f, g, m, j, i, o, q, u, v]; rfl
            refine regv_skip (s1 := ?_) ?_ ?_ ?_
            rotate_left
            · simp [k, b, e, a, f, g, m, j, i, o, q, u, v]; done
            · simp [k, b, e, a, f, g, m, j, i, o, q, u, v]; rfl
            refine regv_skip (s1 := ?_) ?_ ?_ ?_
            rotate_left
            · simp [k, b, e, a, f, g, m, j, i, o, q, u, v]; done
            · simp [k, b, e, a, f, g, m, j, i, o, q, u, v]; rfl
            refine regv_skip (s1 := ?_) ?_ ?_ ?_
            rotate_left
            · simp [k, b, e, a, f, g, m, j, i, o, q, u, v]; done
            · simp [k, b, e, a, f, g, m, j, i, o, q, u, v]; rfl
            refine regv_skip (s1 := ?_) ?_ ?_ ?_
            rotate_left
            · simp [k, b, e, a, f, g, m, j, i, o, q, u, v]; done
            · simp [k, b, e, a, f, g, m, j, i, o, q, u, v]; rfl
            refine regv_skip (s1 := ?_) ?_ ?_ ?_
            rotate_left
            · simp [k, b, e, a, f, g, m, j, i, o, q, u, v]; done
            · simp [k, b, e, a, f, g, m, j, i, o, q, u, v]; rfl
            refine regv_skip (s1 := ?_) ?_ ?_ ?_
            rotate_left
            · simp [k, b, e, a, f, g, m, j, i, o, q, u, v]; done
            · simp [k, b, e, a, f, g, m, j, i, o, q, u, v]; rfl
            iterate 2
              refine regv_pure (s1 := ?_) rfl rfl ?_ ?_ ?_
              rotate_left
              · simp [k, b, e, a, f, g, m, j, i, o, q, u, v]; rfl
              · first | (simp [k, b, e, a, f, g, m, j, i, o, q, u, v] <;> omega) | (have hq := v; simp at hq; simp [k, b, e, a, f, g, m, j, i, o, q, u, v, hq]; done) | skip
            refine regv_skip (s1 := ?_) ?_ ?_ ?_
            rotate_left
            · simp [k, b, e, a, f, g, m, j, i, o, q, u, v]; done
            · simp [k, b, e, a, f, g, m, j, i, o, q, u, v]; rfl
            refine regv_skip (s1 := ?_) ?_ ?_ ?_
            rotate_left
            · simp [k, b, e, a, f, g, m, j, i, o, q, u, v]; done
            · simp [k, b, e, a, f, g, m, j, i, o, q, u, v]; rfl
            iterate 2
              refine regv_pure (s1 := ?_) rfl rfl ?_ ?_ ?_
              rotate_left
              · simp [k, b, e, a, f, g, m, j, i, o, q, u, v]; rfl
              · first | (simp [k, b, e, a, f, g, m, j, i, o, q, u, v] <;> omega) | (have hq := v; simp at hq; simp [k, b, e, a, f, g, m, j, i, o, q, u, v, hq]; done) | skip
            refine regv_skip (s1 := ?_) ?_ ?_ ?_
            rotate_left
            · simp [k, b, e, a, f, g, m, j, i, o, q, u, v]; done
            · simp [k, b, e, a, f, g, m, j, i, o, q, u, v]; rfl
            refine regv_skip (s1 := ?_) ?_ ?_ ?_
            rotate_left
            · simp [k, b, e, a, f, g, m, j, i, o, q, u, v]; done
            · simp [k, b, e, a, f, g, m, j, i, o, q, u, v]; rfl
            refine regv_skip (s1 := ?_) ?_ ?_ ?_
            rotate_left
            · simp [k, b, e, a, f, g, m, j, i, o, q, u, v]; done
            · simp [k, b, e, a, f, g, m, j, i, o, q, u, v]; rfl
            refine regv_skip (s1 := ?_) ?_ ?_ ?_
            rotate_left
            · simp [k, b, e, a, f, g, m, j, i, o, q, u, v]; done
            · simp [k, b, e, a, f, g, m, j, i, o, q, u, v]; rfl
            refine regv_skip (s1 := ?_) ?_ ?_ ?_
            rotate_left
            · simp [k, b, e, a, f, g, m, j, i, o, q, u, v]; done
            · simp [k, b, e, a, f, g, m, j, i, o, q, u, v]; rfl
            iterate 1
              refine regv_pure (s1 := ?_) rfl rfl ?_ ?_ ?_
              rotate_left
              · simp [k, b, e, a, f, g, m, j, i, o, q, u, v]; rfl
              · first | (simp [k, b, e, a, f, g, m, j, i, o, q, u, v] <;> omega) | (have hq := v; simp at hq; simp [k, b, e, a, f, g, m, j, i, o, q, u, v, hq]; done) | skip
            refine regv_nil ?_
            refine Wp.cond true (by first | (simp [k, b, e, a, f, g, m, j, i, o, q, u, v] <;> omega) | (have hq := v; simp at hq; simp [k, b, e, a, f, g, m, j, i, o, q, u, v, hq]; done)) (fun _ => ?_) (fun h0 => absurd h0 (by decide))
            refine Wp.reg_seq (own := fun _ => false) tt_ok ?_
            iterate 1
              refine regv_pure (s1 := ?_) rfl rfl ?_ ?_ ?_
              rotate_left
              · simp [k, b, e, a, f, g, m, j, i, o, q, u, v]; rfl
              · first | (simp [k, b, e, a, f, g, m, j, i, o, q, u, v] <;> omega) | (have hq := v; simp at hq; simp [k, b, e, a, f, g, m, j, i, o, q, u, v, hq]; done) | skip
            refine regv_nil ?_
            cases h
            refine Wp.ret (endQ_ret0 rfl ?_)
            repeat' first | exact All2.nil | refine All2.cons ?_ ?_ | refine AvLe.tups ?_ | refine AvLe.aggs ?_
            all_goals first
              | (exact AvLe.refl _ rfl)
              | (exact AvLe.nil _)
              | (exact AvLe.znil _)
              | (exact AvLe.ghost _ rfl)
              | (exact AvLe.zghost _ rfl)
              | (exact AvLe.sl' rfl (by simp [k, b, e, a, f, g, m, j, i, o, q, u, v]; done) (by simp [k, b, e, a, f, g, m, j, i, o, q, u, v]; done))
              | (exact AvLe.frz' rfl rfl rfl (by simp [k, b, e, a, f, g, m, j, i, o, q, u, v]; done) (by simp [k, b, e, a, f, g, m, j, i, o, q, u, v]; done) (by simp [k, b, e, a, f, g, m, j, i, o, q, u, v]; done))
              | (exact AvLe.list' (by simp [k, b, e, a, f, g, m, j, i, o, q, u, v]; done) (by simp [k, b, e, a, f, g, m, j, i, o, q, u, v]; done))
              | (exact AvLe.eq (by simp [k, b, e, a, f, g, m, j, i, o, q, u, v]; done) rfl)
        · rw [u, if_pos rfl] at h
          refine Wp.cond true (by first | (simp [k, b, e, a, f, g, m, j, i, o, q, u] <;> omega) | (have hq := u; simp at hq; simp [k, b, e, a, f, g, m, j, i, o, q, u, hq]; done)) (fun _ => ?_) (fun h0 => absurd h0 (by decide))
          refine Wp.reg_seq (own := fun _ => false) tt_ok ?_
          obtain ⟨dm, cp, h⟩ := obind h
          refine regv_call2 (s' := ?_) (p := ?_) (con_law16_alive cp) rfl rfl rfl rfl ?_ ?_ ?_ ?_ ?_ ?_
          rotate_left 2
          · simp [k, b, e, a, f, g, m, j, i, o, q, u]; rfl
          · first | exact .inl rfl | (refine .inl ?_; simp [k, b, e, a, f, g, m, j, i, o, q, u]; done) | (refine .inr ?_; dsimp only; repeat' first | exact All2.nil | refine All2.cons ?_ ?_ | exact AvLe.refl _ rfl | refine AvLe.aggs ?_) <;> first | exact AvLe.refl _ rfl | exact AvLe.nil _ | exact AvLe.znil _ | exact AvLe.list' (by first | (simp [k, b, e, a, f, g, m, j, i, o, q, u] <;> omega)) (by simp [k, b, e, a, f, g, m, j, i, o, q, u]; done) | exact AvLe.eq (by simp [k, b, e, a, f, g, m, j, i, o, q, u]; done) rfl
          · first | (simp [k, b, e, a, f, g, m, j, i, o, q, u] <;> omega) | (have hq := u; simp at hq; simp [k, b, e, a, f, g, m, j, i, o, q, u, hq]; done) | skip
          · simp
          · simp [k, b, e, a, f, g, m, j, i, o, q, u]; rfl
          iterate 1
            refine regv_pure (s1 := ?_) rfl rfl ?_ ?_ ?_
            rotate_left
            · simp [k, b, e, a, f, g, m, j, i, o, q, u]; rfl
            · first | (simp [k, b, e, a, f, g, m, j, i, o, q, u] <;> omega) | (have hq := u; simp at hq; simp [k, b, e, a, f, g, m, j, i, o, q, u, hq]; done) | skip
          refine regv_nil ?_
          cases h
          refine Wp.ret (endQ_ret0 rfl ?_)
          repeat' first | exact All2.nil | refine All2.cons ?_ ?_ | refine AvLe.tups ?_ | refine AvLe.aggs ?_
          all_goals first
            | (exact AvLe.refl _ rfl)
            | (exact AvLe.nil _)
            | (exact AvLe.znil _)
            | (exact AvLe.ghost _ rfl)
            | (exact AvLe.zghost _ rfl)
            | (exact AvLe.sl' rfl (by simp [k, b, e, a, f, g, m, j, i, o, q, u]; done) (by simp [k, b, e, a, f, g, m, j, i, o, q, u]; done))
            | (exact AvLe.frz' rfl rfl rfl (by simp [k, b, e, a, f, g, m, j, i, o, q, u]; done) (by simp [k, b, e, a, f, g, m, j, i, o, q, u]; done) (by simp [k, b, e, a, f, g, m, j, i, o, q, u]; done))
            | (exact AvLe.list' (by simp [k, b, e, a, f, g, m, j, i, o, q, u]; done) (by simp [k, b, e, a, f, g, m, j, i, o, q, u]; done))
            | (exact AvLe.eq (by simp [k, b, e, a, f, g, m, j, i, o, q, u]; done) rfl)
      · rw [q, if_pos rfl] at h
        refine Wp.cond true (by first | (simp [k, b, e, a, f, g, m, j, i, o, q] <;> omega) | (have hq := q; simp at hq; simp [k, b, e, a, f, g, m, j, i, o, q, hq]; done)) (fun _ => ?_) (fun h0 => absurd h0 (by decide))
        refine Wp.reg_seq (own := fun _ => false) tt_ok ?_
        iterate 1
          refine regv_pure (s1 := ?_) rfl rfl ?_ ?_ ?_
          rotate_left
          · simp [k, b, e, a, f, g, m, j, i, o, q]; rfl
          · first | (simp [k, b, e, a, f, g, m, j, i, o, q] <;> omega) | (have hq := q; simp at hq; simp [k, b, e, a, f, g, m, j, i, o, q, hq]; done) | skip
        refine regv_nil ?_
        cases h
        refine Wp.ret (endQ_ret0 rfl ?_)
        repeat' first | exact All2.nil | refine All2.cons ?_ ?_ | refine AvLe.tups ?_ | refine AvLe.aggs ?_
        all_goals first
          | (exact AvLe.refl _ rfl)
          | (exact AvLe.nil _)
          | (exact AvLe.znil _)
          | (exact AvLe.ghost _ rfl)
          | (exact AvLe.zghost _ rfl)
          | (exact AvLe.sl' rfl (by simp [k, b, e, a, f, g, m, j, i, o, q]; done) (by simp [k, b, e, a, f, g, m, j, i, o, q]; done))
          | (exact AvLe.frz' rfl rfl rfl (by simp [k, b, e, a, f, g, m, j, i, o, q]; done) (by simp [k, b, e, a, f, g, m, j, i, o, q]; done) (by simp [k, b, e, a, f, g, m, j, i, o, q]; done))
          | (exact AvLe.list' (by simp [k, b, e, a, f, g, m, j, i, o, q]; done) (by simp [k, b, e, a, f, g, m, j, i, o, q]; done))
          | (exact AvLe.eq (by simp [k, b, e, a, f, g, m, j, i, o, q]; done) rfl)
    · rw [o, if_pos rfl] at h
      refine regv_skip (s1 := ?_) ?_ ?_ ?_
      rotate_left
      · simp [k, b, e, a, f, g, m, j, i, o]; done
      · simp [k, b, e, a, f, g, m, j, i, o]; rfl
      refine regv_skip (s1 := ?_) ?_ ?_ ?_
      rotate_left
      · simp [k, b, e, a, f, g, m, j, i, o]; done
      · simp [k, b, e, a, f, g, m, j, i, o]; rfl
      refine regv_skip (s1 := ?_) ?_ ?_ ?_
      rotate_left
      · simp [k, b, e, a, f, g, m, j, i, o]; done
      · simp [k, b, e, a, f, g, m, j, i, o]; rfl
      refine regv_skip (s1 := ?_) ?_ ?_ ?_
      rotate_left
      · simp [k, b, e, a, f, g, m, j, i, o]; done
      · simp [k, b, e, a, f, g, m, j, i, o]; rfl
      iterate 1
        refine regv_pure (s1 := ?_) rfl rfl ?_ ?_ ?_
        rotate_left
        · simp [k, b, e, a, f, g, m, j, i, o]; rfl
        · first | (simp [k, b, e, a, f, g, m, j, i, o] <;> omega) | (have hq := o; simp at hq; simp [k, b, e, a, f, g, m, j, i, o, hq]; done) | skip
      refine regv_nil ?_
      refine Wp.cond true (by first | (simp [k, b, e, a, f, g, m, j, i, o] <;> omega) | (have hq := o; simp at hq; simp [k, b, e, a, f, g, m, j, i, o, hq]; done)) (fun _ => ?_) (fun h0 => absurd h0 (by decide))
      refine Wp.reg_seq (own := fun _ => false) tt_ok ?_
      iterate 1
        refine regv_pure (s1 := ?_) rfl rfl ?_ ?_ ?_
        rotate_left
        · simp [k, b, e, a, f, g, m, j, i, o]; rfl
        · first | (simp [k, b, e, a, f, g, m, j, i, o] <;> omega) | (have hq := o; simp at hq; simp [k, b, e, a, f, g, m, j, i, o, hq]; done) | skip
      refine regv_nil ?_
      cases h
      refine Wp.ret (endQ_ret0 rfl ?_)
      repeat' first | exact All2.nil | refine All2.cons ?_ ?_ | refine AvLe.tups ?_ | refine AvLe.aggs ?_
      all_goals first
        | (exact AvLe.refl _ rfl)
        | (exact AvLe.nil _)
        | (exact AvLe.znil _)
        | (exact AvLe.ghost _ rfl)
        | (exact AvLe.zghost _ rfl)
        | (exact AvLe.sl' rfl (by simp [k, b, e, a, f, g, m, j, i, o]; done) (by simp [k, b, e, a, f, g, m, j, i, o]; done))
        | (exact AvLe.frz' rfl rfl rfl (by simp [k, b, e, a, f, g, m, j, i, o]; done) (by simp [k, b, e, a, f, g, m, j, i, o]; done) (by simp [k, b, e, a, f, g, m, j, i, o]; done))
        | (exact AvLe.list' (by simp [k, b, e, a, f, g, m, j, i, o]; done) (by simp [k, b, e, a, f, g, m, j, i, o]; done))
        | (exact AvLe.eq (by simp [k, b, e, a, f, g, m, j, i, o]; done) rfl)
  · rw [if_pos k] at h
    refine Wp.cond true (by first | (simp [k] <;> omega) | (have hq := k; simp at hq; simp [k, hq]; done)) (fun _ => ?_) (fun h0 => absurd h0 (by decide))
    refine Wp.reg_seq (own := fun _ => false) tt_ok ?_
    obtain ⟨dp, cq, h⟩ := obind h
    refine regv_call2 (s' := ?_) (p := ?_) (con_law16_alive cq) rfl rfl rfl rfl ?_ ?_ ?_ ?_ ?_ ?_
    rotate_left 2
    · simp [k]; rfl
    · first | exact .inl rfl | (refine .inl ?_; simp [k]; done) | (refine .inr ?_; dsimp only; repeat' first | exact All2.nil | refine All2.cons ?_ ?_ | exact AvLe.refl _ rfl | refine AvLe.aggs ?_) <;> first | exact AvLe.refl _ rfl | exact AvLe.nil _ | exact AvLe.znil _ | exact AvLe.list' (by first | (simp [k] <;> omega)) (by simp [k]; done) | exact AvLe.eq (by simp [k]; done) rfl
    · first | (simp [k] <;> omega) | (have hq := k; simp at hq; simp [k, hq]; done) | skip
    · simp
    · simp [k]; rfl
    iterate 1
      refine regv_pure (s1 := ?_) rfl rfl ?_ ?_ ?_
      rotate_left
      · simp [k]; rfl
      · first | (simp [k] <;> omega) | (have hq := k; simp at hq; simp [k, hq]; done) | skip
    refine regv_nil ?_
    cases h
    refine Wp.ret (endQ_ret0 rfl ?_)
    repeat' first | exact All2.nil | refine All2.cons ?_ ?_ | refine AvLe.tups ?_ | refine AvLe.aggs ?_
    all_goals first
      | (exact AvLe.refl _ rfl)
      | (exact AvLe.nil _)
      | (exact AvLe.znil _)
      | (exact AvLe.ghost _ rfl)
      | (exact AvLe.zghost _ rfl)
      | (exact AvLe.sl' rfl (by simp [k]; done) (by simp [k]; done))
      | (exact AvLe.frz' rfl rfl rfl (by simp [k]; done) (by simp [k]; done) (by simp [k]; done))
      | (exact AvLe.list' (by simp [k]; done) (by simp [k]; done))
      | (exact AvLe.eq (by simp [k]; done) rfl)

end Go.Proofs.Ytgbgmijighbfbaa

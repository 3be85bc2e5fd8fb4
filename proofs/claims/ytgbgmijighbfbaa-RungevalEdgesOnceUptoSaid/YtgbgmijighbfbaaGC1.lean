/- Contracts: models of functions are right. No law is proved here. -/
import Derived.Test.YtgbgmijighbfbaaGC0
namespace Go.Proofs.Ytgbgmijighbfbaa
open Go.Av Go.G
attribute [local simp] runf guardA opf St.ev Go.Av.look St.setd constAV constAV0 opBin opLen intBin St.need lookT TT0 tab resA resOne resAll blt_dec ble_dec beq_dec isPure
attribute [local simp] opMakeSlice opCopy opIndexAddr opLoad opStore St.mem St.rows opUn calleeA toArgs toArg toArg0 toArgs0 shift shift0 shift1 splice cellsOf isFree ofCells TS.isAgg isCell strBin opConvert
attribute [local simp] opBuildSlice fillA opAppend eqC eqA cksB ckB St.newBox runI valKind withinB readsHp refsD refs noSl opFieldAddr opBuild placeOf Op.operands Call.operands opIndex opExtract opSlice opField partA
attribute [local simp] loA hiA lenA opMakeMap opLookup opMapUpdate keyOk findA_int findA_str putA_strB putA_strI putA_intB mAV_length mAV_nil
attribute [local simp] aL cI cB cS cL rw_map fz_rw fz_const dropRow_rw fz_append fz_set fz_copy fz_rows rowLen_rw rowsLen_nil rowsLen_cons rowsLen_append rowsLen_map rowsLen_take rowsLen_drop rowsLen_replicate take_map_len take_map_le drop_map_len take_drop_len chunks isScalar isScalar0
attribute [local congr] bind_congr1 map_congr1 cond_congr1
attribute [local simp] cApiAddr cApiContact cApiCoil cApiRung cApiState
set_option maxHeartbeats 4000000
set_option linter.unusedSimpArgs false
set_option linter.unusedVariables false

theorem con_law16_tooLarge {n : Nat} {r_0 : ApiRung} {in1 : List Bool} {st2 : ApiState} {r : Bool} (h : law16_tooLarge n r_0 in1 st2 = some r) : Con Try.prog 14 [.agg (cApiRung r_0), aL cB in1, .agg (cApiState st2)] (.bool r) [] := by
  refine con_of (T := TT0) tt_ok Try.func14 (c := _) (by unfold Try.f14; rfl) Try.ntmps14 (rs := [.tmp 6]) (by rw [Try.results14]) (by unfold Try.f14; rfl) (by simp) ?_
  simp only [argsCh]
  dsimp only [law16_tooLarge] at h
  refine Wp.reg_seq (own := fun _ => false) tt_ok ?_
  iterate 3
    refine regv_pure (s1 := ?_) rfl rfl ?_ ?_ ?_
    rotate_left
    · simp []; rfl
    · first | (simp [] <;> omega) | skip
  refine regv_nil ?_
  refine Wp.reg_seq (own := fun _ => false) tt_ok ?_
  iterate 1
    refine regv_pure (s1 := ?_) rfl rfl ?_ ?_ ?_
    rotate_left
    · simp []; rfl
    · first | (simp [] <;> omega) | skip
  obtain ⟨k, i, h⟩ := obind h
  refine regv_call2 (s' := ?_) (p := ?_) (con_law12_TooLarge i) rfl rfl rfl rfl ?_ ?_ ?_ ?_ ?_ ?_
  rotate_left 2
  · simp []; rfl
  · first | exact .inl rfl | (refine .inl ?_; simp []; done) | (refine .inr ?_; dsimp only; repeat' first | exact All2.nil | refine All2.cons ?_ ?_) <;> first | exact AvLe.refl _ rfl | exact AvLe.nil _ | exact AvLe.znil _ | exact AvLe.list' (by simp []; done) (by simp []; done) | exact AvLe.eq (by simp []; done) rfl
  · first | (simp [] <;> omega) | skip
  · simp
  · simp []; rfl
  iterate 2
    refine regv_pure (s1 := ?_) rfl rfl ?_ ?_ ?_
    rotate_left
    · simp []; rfl
    · first | (simp [] <;> omega) | skip
  refine (Decidable.em (k > 0)).symm.elim (fun a => ?_) (fun a => ?_)
  · rw [if_neg (by simpa using a)] at h
    refine regv_pure (s1 := ?_) rfl ?_ ?_ ?_ ?_
    rotate_left
    · simp [a]; done
    · simp [a]; rfl
    · first | (simp [a] <;> omega) | (have hq := a; simp at hq; simp [a, hq]; done) | skip
    refine regv_pure (s1 := ?_) rfl ?_ ?_ ?_ ?_
    rotate_left
    · simp [a]; done
    · simp [a]; rfl
    · first | (simp [a] <;> omega) | (have hq := a; simp at hq; simp [a, hq]; done) | skip
    refine regv_pure (s1 := ?_) rfl ?_ ?_ ?_ ?_
    rotate_left
    · simp [a]; done
    · simp [a]; rfl
    · first | (simp [a] <;> omega) | (have hq := a; simp at hq; simp [a, hq]; done) | skip
    refine regv_pure (s1 := ?_) rfl ?_ ?_ ?_ ?_
    rotate_left
    · simp [a]; done
    · simp [a]; rfl
    · first | (simp [a] <;> omega) | (have hq := a; simp at hq; simp [a, hq]; done) | skip
    iterate 2
      refine regv_pure (s1 := ?_) rfl rfl ?_ ?_ ?_
      rotate_left
      · simp [a]; rfl
      · first | (simp [a] <;> omega) | (have hq := a; simp at hq; simp [a, hq]; done) | skip
    refine (Decidable.em ((r_0.Coils.length : Int) > 100)).symm.elim (fun b => ?_) (fun b => ?_)
    · rw [if_neg (by simpa using b)] at h
      refine regv_pure (s1 := ?_) rfl ?_ ?_ ?_ ?_
      rotate_left
      · simp [a, b]; done
      · simp [a, b]; rfl
      · first | (simp [a, b] <;> omega) | (have hq := b; simp at hq; simp [a, b, hq]; done) | skip
      refine regv_pure (s1 := ?_) rfl ?_ ?_ ?_ ?_
      rotate_left
      · simp [a, b]; done
      · simp [a, b]; rfl
      · first | (simp [a, b] <;> omega) | (have hq := b; simp at hq; simp [a, b, hq]; done) | skip
      refine regv_pure (s1 := ?_) rfl ?_ ?_ ?_ ?_
      rotate_left
      · simp [a, b]; done
      · simp [a, b]; rfl
      · first | (simp [a, b] <;> omega) | (have hq := b; simp at hq; simp [a, b, hq]; done) | skip
      iterate 2
        refine regv_pure (s1 := ?_) rfl rfl ?_ ?_ ?_
        rotate_left
        · simp [a, b]; rfl
        · first | (simp [a, b] <;> omega) | (have hq := b; simp at hq; simp [a, b, hq]; done) | skip
      refine (Decidable.em ((in1.length : Int) > 500)).symm.elim (fun d => ?_) (fun d => ?_)
      · rw [if_neg (by simpa using d)] at h
        refine regv_pure (s1 := ?_) rfl ?_ ?_ ?_ ?_
        rotate_left
        · simp [a, b, d]; done
        · simp [a, b, d]; rfl
        · first | (simp [a, b, d] <;> omega) | (have hq := d; simp at hq; simp [a, b, d, hq]; done) | skip
        refine regv_pure (s1 := ?_) rfl ?_ ?_ ?_ ?_
        rotate_left
        · simp [a, b, d]; done
        · simp [a, b, d]; rfl
        · first | (simp [a, b, d] <;> omega) | (have hq := d; simp at hq; simp [a, b, d, hq]; done) | skip
        obtain ⟨m, g, h⟩ := obind h
        have f := congrArg (List.map cApiState) (Option.some.inj g)
        have e := (congrArg List.length (Option.some.inj g)).symm
        try simp [a, b, d] at f
        try simp [a, b, d] at e
        clear g
        try simp only [f]
        obtain ⟨o, j, h⟩ := obind h
        refine regv_call2 (s' := ?_) (p := ?_) (con_law03_TooLarge j) rfl rfl rfl rfl ?_ ?_ ?_ ?_ ?_ ?_
        rotate_left 2
        · simp [a, b, d, f, e]; rfl
        · first | exact .inl rfl | (refine .inl ?_; simp [a, b, d, f, e]; done) | (refine .inr ?_; dsimp only; repeat' first | exact All2.nil | refine All2.cons ?_ ?_) <;> first | exact AvLe.refl _ rfl | exact AvLe.nil _ | exact AvLe.znil _ | exact AvLe.list' (by simp [a, b, d, f, e]; done) (by simp [a, b, d, f, e]; done) | exact AvLe.eq (by simp [a, b, d, f, e]; done) rfl
        · first | (simp [a, b, d, f, e] <;> omega) | (have hq := e; simp at hq; simp [a, b, d, f, e, hq]; done) | skip
        · simp
        · simp [a, b, d, f, e]; rfl
        refine regv_pure (s1 := ?_) rfl ?_ ?_ ?_ ?_
        rotate_left
        · simp [a, b, d, f, e]; done
        · simp [a, b, d, f, e]; rfl
        · first | (simp [a, b, d, f, e] <;> omega) | (have hq := e; simp at hq; simp [a, b, d, f, e, hq]; done) | skip
        iterate 2
          refine regv_pure (s1 := ?_) rfl rfl ?_ ?_ ?_
          rotate_left
          · simp [a, b, d, f, e]; rfl
          · first | (simp [a, b, d, f, e] <;> omega) | (have hq := e; simp at hq; simp [a, b, d, f, e, hq]; done) | skip
        refine regv_nil ?_
        cases h
        refine Wp.ret (endQ_ret0 rfl ?_)
        repeat' first | exact All2.nil | refine All2.cons ?_ ?_ | refine AvLe.tups ?_ | refine AvLe.aggs ?_
        all_goals first
          | (exact AvLe.refl _ rfl)
          | (exact AvLe.nil _)
          | (exact AvLe.znil _)
          | (exact AvLe.ghost _ rfl)
          | (exact AvLe.zghost _ rfl)
          | (exact AvLe.sl' rfl (by simp [a, b, d, f, e]; done) (by simp [a, b, d, f, e]; done))
          | (exact AvLe.frz' rfl rfl rfl (by simp [a, b, d, f, e]; done) (by simp [a, b, d, f, e]; done) (by simp [a, b, d, f, e]; done))
          | (exact AvLe.list' (by simp [a, b, d, f, e]; done) (by simp [a, b, d, f, e]; done))
          | (exact AvLe.eq (by simp [a, b, d, f, e]; done) rfl)
      · rw [if_pos (decide_eq_true d)] at h
        refine regv_skip (s1 := ?_) ?_ ?_ ?_
        rotate_left
        · simp [a, b, d]; done
        · simp [a, b, d]; rfl
        refine regv_skip (s1 := ?_) ?_ ?_ ?_
        rotate_left
        · simp [a, b, d]; done
        · simp [a, b, d]; rfl
        refine regv_skip (s1 := ?_) ?_ ?_ ?_
        rotate_left
        · simp [a, b, d]; done
        · simp [a, b, d]; rfl
        refine regv_skip (s1 := ?_) ?_ ?_ ?_
        rotate_left
        · simp [a, b, d]; done
        · simp [a, b, d]; rfl
        iterate 2
          refine regv_pure (s1 := ?_) rfl rfl ?_ ?_ ?_
          rotate_left
          · simp [a, b, d]; rfl
          · first | (simp [a, b, d] <;> omega) | (have hq := d; simp at hq; simp [a, b, d, hq]; done) | skip
        refine regv_nil ?_
        cases h
        refine Wp.ret (endQ_ret0 rfl ?_)
        repeat' first | exact All2.nil | refine All2.cons ?_ ?_ | refine AvLe.tups ?_ | refine AvLe.aggs ?_
        all_goals first
          | (exact AvLe.refl _ rfl)
          | (exact AvLe.nil _)
          | (exact AvLe.znil _)
          | (exact AvLe.ghost _ rfl)
          | (exact AvLe.zghost _ rfl)
          | (exact AvLe.sl' rfl (by simp [a, b, d]; done) (by simp [a, b, d]; done))
          | (exact AvLe.frz' rfl rfl rfl (by simp [a, b, d]; done) (by simp [a, b, d]; done) (by simp [a, b, d]; done))
          | (exact AvLe.list' (by simp [a, b, d]; done) (by simp [a, b, d]; done))
          | (exact AvLe.eq (by simp [a, b, d]; done) rfl)
    · rw [if_pos (decide_eq_true b)] at h
      refine regv_skip (s1 := ?_) ?_ ?_ ?_
      rotate_left
      · simp [a, b]; done
      · simp [a, b]; rfl
      refine regv_skip (s1 := ?_) ?_ ?_ ?_
      rotate_left
      · simp [a, b]; done
      · simp [a, b]; rfl
      refine regv_skip (s1 := ?_) ?_ ?_ ?_
      rotate_left
      · simp [a, b]; done
      · simp [a, b]; rfl
      iterate 2
        refine regv_pure (s1 := ?_) rfl rfl ?_ ?_ ?_
        rotate_left
        · simp [a, b]; rfl
        · first | (simp [a, b] <;> omega) | (have hq := b; simp at hq; simp [a, b, hq]; done) | skip
      refine regv_skip (s1 := ?_) ?_ ?_ ?_
      rotate_left
      · simp [a, b]; done
      · simp [a, b]; rfl
      refine regv_skip (s1 := ?_) ?_ ?_ ?_
      rotate_left
      · simp [a, b]; done
      · simp [a, b]; rfl
      refine regv_skip (s1 := ?_) ?_ ?_ ?_
      rotate_left
      · simp [a, b]; done
      · simp [a, b]; rfl
      refine regv_skip (s1 := ?_) ?_ ?_ ?_
      rotate_left
      · simp [a, b]; done
      · simp [a, b]; rfl
      iterate 2
        refine regv_pure (s1 := ?_) rfl rfl ?_ ?_ ?_
        rotate_left
        · simp [a, b]; rfl
        · first | (simp [a, b] <;> omega) | (have hq := b; simp at hq; simp [a, b, hq]; done) | skip
      refine regv_nil ?_
      cases h
      refine Wp.ret (endQ_ret0 rfl ?_)
      repeat' first | exact All2.nil | refine All2.cons ?_ ?_ | refine AvLe.tups ?_ | refine AvLe.aggs ?_
      all_goals first
        | (exact AvLe.refl _ rfl)
        | (exact AvLe.nil _)
        | (exact AvLe.znil _)
        | (exact AvLe.ghost _ rfl)
        | (exact AvLe.zghost _ rfl)
        | (exact AvLe.sl' rfl (by simp [a, b]; done) (by simp [a, b]; done))
        | (exact AvLe.frz' rfl rfl rfl (by simp [a, b]; done) (by simp [a, b]; done) (by simp [a, b]; done))
        | (exact AvLe.list' (by simp [a, b]; done) (by simp [a, b]; done))
        | (exact AvLe.eq (by simp [a, b]; done) rfl)
  · rw [if_pos (decide_eq_true a)] at h
    refine regv_skip (s1 := ?_) ?_ ?_ ?_
    rotate_left
    · simp [a]; done
    · simp [a]; rfl
    refine regv_skip (s1 := ?_) ?_ ?_ ?_
    rotate_left
    · simp [a]; done
    · simp [a]; rfl
    refine regv_skip (s1 := ?_) ?_ ?_ ?_
    rotate_left
    · simp [a]; done
    · simp [a]; rfl
    refine regv_skip (s1 := ?_) ?_ ?_ ?_
    rotate_left
    · simp [a]; done
    · simp [a]; rfl
    iterate 2
      refine regv_pure (s1 := ?_) rfl rfl ?_ ?_ ?_
      rotate_left
      · simp [a]; rfl
      · first | (simp [a] <;> omega) | (have hq := a; simp at hq; simp [a, hq]; done) | skip
    refine regv_skip (s1 := ?_) ?_ ?_ ?_
    rotate_left
    · simp [a]; done
    · simp [a]; rfl
    refine regv_skip (s1 := ?_) ?_ ?_ ?_
    rotate_left
    · simp [a]; done
    · simp [a]; rfl
    refine regv_skip (s1 := ?_) ?_ ?_ ?_
    rotate_left
    · simp [a]; done
    · simp [a]; rfl
    iterate 2
      refine regv_pure (s1 := ?_) rfl rfl ?_ ?_ ?_
      rotate_left
      · simp [a]; rfl
      · first | (simp [a] <;> omega) | (have hq := a; simp at hq; simp [a, hq]; done) | skip
    refine regv_skip (s1 := ?_) ?_ ?_ ?_
    rotate_left
    · simp [a]; done
    · simp [a]; rfl
    refine regv_skip (s1 := ?_) ?_ ?_ ?_
    rotate_left
    · simp [a]; done
    · simp [a]; rfl
    refine regv_skip (s1 := ?_) ?_ ?_ ?_
    rotate_left
    · simp [a]; done
    · simp [a]; rfl
    refine regv_skip (s1 := ?_) ?_ ?_ ?_
    rotate_left
    · simp [a]; done
    · simp [a]; rfl
    iterate 2
      refine regv_pure (s1 := ?_) rfl rfl ?_ ?_ ?_
      rotate_left
      · simp [a]; rfl
      · first | (simp [a] <;> omega) | (have hq := a; simp at hq; simp [a, hq]; done) | skip
    refine regv_nil ?_
    cases h
    refine Wp.ret (endQ_ret0 rfl ?_)
    repeat' first | exact All2.nil | refine All2.cons ?_ ?_ | refine AvLe.tups ?_ | refine AvLe.aggs ?_
    all_goals first
      | (exact AvLe.refl _ rfl)
      | (exact AvLe.nil _)
      | (exact AvLe.znil _)
      | (exact AvLe.ghost _ rfl)
      | (exact AvLe.zghost _ rfl)
      | (exact AvLe.sl' rfl (by simp [a]; done) (by simp [a]; done))
      | (exact AvLe.frz' rfl rfl rfl (by simp [a]; done) (by simp [a]; done) (by simp [a]; done))
      | (exact AvLe.list' (by simp [a]; done) (by simp [a]; done))
      | (exact AvLe.eq (by simp [a]; done) rfl)

theorem con_law16_alive {n : Nat} {r : Bool} (h : law16_alive n  = some r) : Con Try.prog 11 [] (.bool r) [] := by
  refine con_of (T := TT0) tt_ok Try.func11 (c := _) (by unfold Try.f11; rfl) Try.ntmps11 (rs := [.tmp 0]) (by rw [Try.results11]) (by unfold Try.f11; rfl) (by simp) ?_
  simp only [argsCh]
  dsimp only [law16_alive] at h
  refine Wp.reg_seq (own := fun _ => false) tt_ok ?_
  iterate 1
    refine regv_pure (s1 := ?_) rfl rfl ?_ ?_ ?_
    rotate_left
    · simp []; rfl
    · first | (simp [] <;> omega) | skip
  refine regv_nil ?_
  refine Wp.reg_seq (own := fun _ => false) tt_ok ?_
  iterate 2
    refine regv_pure (s1 := ?_) rfl rfl ?_ ?_ ?_
    rotate_left
    · simp []; rfl
    · first | (simp [] <;> omega) | skip
  obtain ⟨bw, aw, h⟩ := obind h
  have a := congrArg (List.map cApiContact) (Option.some.inj aw)
  have b := (congrArg List.length (Option.some.inj aw)).symm
  try simp [] at a
  try simp [] at b
  clear aw
  try simp only [a]
  iterate 3
    refine regv_pure (s1 := ?_) rfl rfl ?_ ?_ ?_
    rotate_left
    · simp [a, b]; rfl
    · first | (simp [a, b] <;> omega) | (have hq := b; simp at hq; simp [a, b, hq]; done) | skip
  obtain ⟨bz, ay, h⟩ := obind h
  have e := congrArg (List.map cApiCoil) (Option.some.inj ay)
  have d := (congrArg List.length (Option.some.inj ay)).symm
  try simp [a, b] at e
  try simp [a, b] at d
  clear ay
  try simp only [e]
  iterate 3
    refine regv_pure (s1 := ?_) rfl rfl ?_ ?_ ?_
    rotate_left
    · simp [a, b, e, d]; rfl
    · first | (simp [a, b, e, d] <;> omega) | (have hq := d; simp at hq; simp [a, b, e, d, hq]; done) | skip
  refine regv_nil ?_
  refine Wp.reg_seq (own := fun _ => false) tt_ok ?_
  iterate 2
    refine regv_pure (s1 := ?_) rfl rfl ?_ ?_ ?_
    rotate_left
    · simp [a, b, e, d]; rfl
    · first | (simp [a, b, e, d] <;> omega) | (have hq := d; simp at hq; simp [a, b, e, d, hq]; done) | skip
  obtain ⟨ca, az, h⟩ := obind h
  have f := congrArg (List.map cB) (Option.some.inj az)
  have g := (congrArg List.length (Option.some.inj az)).symm
  try simp [a, b, e, d] at f
  try simp [a, b, e, d] at g
  clear az
  try simp only [f]
  iterate 1
    refine regv_pure (s1 := ?_) rfl rfl ?_ ?_ ?_
    rotate_left
    · simp [a, b, e, d, f, g]; rfl
    · first | (simp [a, b, e, d, f, g] <;> omega) | (have hq := g; simp at hq; simp [a, b, e, d, f, g, hq]; done) | skip
  obtain ⟨cb, ba, h⟩ := obind h
  have i := congrArg (List.map cB) (Option.some.inj ba)
  have j := (congrArg List.length (Option.some.inj ba)).symm
  try simp [a, b, e, d, f, g] at i
  try simp [a, b, e, d, f, g] at j
  clear ba
  try simp only [i]
  iterate 1
    refine regv_pure (s1 := ?_) rfl rfl ?_ ?_ ?_
    rotate_left
    · simp [a, b, e, d, f, g, i, j]; rfl
    · first | (simp [a, b, e, d, f, g, i, j] <;> omega) | (have hq := j; simp at hq; simp [a, b, e, d, f, g, i, j, hq]; done) | skip
  obtain ⟨cc, bb, h⟩ := obind h
  have m := congrArg (List.map cB) (Option.some.inj bb)
  have k := (congrArg List.length (Option.some.inj bb)).symm
  try simp [a, b, e, d, f, g, i, j] at m
  try simp [a, b, e, d, f, g, i, j] at k
  clear bb
  try simp only [m]
  iterate 1
    refine regv_pure (s1 := ?_) rfl rfl ?_ ?_ ?_
    rotate_left
    · simp [a, b, e, d, f, g, i, j, m, k]; rfl
    · first | (simp [a, b, e, d, f, g, i, j, m, k] <;> omega) | (have hq := k; simp at hq; simp [a, b, e, d, f, g, i, j, m, k, hq]; done) | skip
  obtain ⟨⟨bd, bk, bm⟩, be, h⟩ := obind h
  dsimp only at h
  refine regv_call2 (s' := ?_) (p := ?_) (con_rungeval_Scan be) rfl rfl rfl rfl ?_ ?_ ?_ ?_ ?_ ?_
  rotate_left 2
  · simp [a, b, e, d, f, g, i, j, m, k]; rfl
  · first | exact .inl rfl | (refine .inl ?_; simp [a, b, e, d, f, g, i, j, m, k]; done) | (refine .inr ?_; dsimp only; repeat' first | exact All2.nil | refine All2.cons ?_ ?_) <;> first | exact AvLe.refl _ rfl | exact AvLe.nil _ | exact AvLe.znil _ | exact AvLe.list' (by simp [a, b, e, d, f, g, i, j, m, k]; done) (by simp [a, b, e, d, f, g, i, j, m, k]; done) | exact AvLe.eq (by simp [a, b, e, d, f, g, i, j, m, k]; done) rfl
  · first | (simp [a, b, e, d, f, g, i, j, m, k] <;> omega) | (have hq := k; simp at hq; simp [a, b, e, d, f, g, i, j, m, k, hq]; done) | skip
  · simp
  · simp [a, b, e, d, f, g, i, j, m, k]; rfl
  iterate 8
    refine regv_pure (s1 := ?_) rfl rfl ?_ ?_ ?_
    rotate_left
    · simp [a, b, e, d, f, g, i, j, m, k]; rfl
    · first | (simp [a, b, e, d, f, g, i, j, m, k] <;> omega) | (have hq := k; simp at hq; simp [a, b, e, d, f, g, i, j, m, k, hq]; done) | skip
  refine regv_nil ?_
  refine Wp.reg_seq (own := fun _ => false) tt_ok ?_
  iterate 2
    refine regv_pure (s1 := ?_) rfl rfl ?_ ?_ ?_
    rotate_left
    · simp [a, b, e, d, f, g, i, j, m, k]; rfl
    · first | (simp [a, b, e, d, f, g, i, j, m, k] <;> omega) | (have hq := k; simp at hq; simp [a, b, e, d, f, g, i, j, m, k, hq]; done) | skip
  obtain ⟨cd, bc, h⟩ := obind h
  have q := congrArg (List.map cB) (Option.some.inj bc)
  have o := (congrArg List.length (Option.some.inj bc)).symm
  try simp [a, b, e, d, f, g, i, j, m, k] at q
  try simp [a, b, e, d, f, g, i, j, m, k] at o
  clear bc
  try simp only [q]
  iterate 1
    refine regv_pure (s1 := ?_) rfl rfl ?_ ?_ ?_
    rotate_left
    · simp [a, b, e, d, f, g, i, j, m, k, q, o]; rfl
    · first | (simp [a, b, e, d, f, g, i, j, m, k, q, o] <;> omega) | (have hq := o; simp at hq; simp [a, b, e, d, f, g, i, j, m, k, q, o, hq]; done) | skip
  obtain ⟨⟨bo, bp, bq⟩, bf, h⟩ := obind h
  dsimp only at h
  refine regv_call2 (s' := ?_) (p := ?_) (con_rungeval_Scan bf) rfl rfl rfl rfl ?_ ?_ ?_ ?_ ?_ ?_
  rotate_left 2
  · simp [a, b, e, d, f, g, i, j, m, k, q, o]; rfl
  · first | exact .inl rfl | (refine .inl ?_; simp [a, b, e, d, f, g, i, j, m, k, q, o]; done) | (refine .inr ?_; dsimp only; repeat' first | exact All2.nil | refine All2.cons ?_ ?_) <;> first | exact AvLe.refl _ rfl | exact AvLe.nil _ | exact AvLe.znil _ | exact AvLe.list' (by simp [a, b, e, d, f, g, i, j, m, k, q, o]; done) (by simp [a, b, e, d, f, g, i, j, m, k, q, o]; done) | exact AvLe.eq (by simp [a, b, e, d, f, g, i, j, m, k, q, o]; done) rfl
  · first | (simp [a, b, e, d, f, g, i, j, m, k, q, o] <;> omega) | (have hq := o; simp at hq; simp [a, b, e, d, f, g, i, j, m, k, q, o, hq]; done) | skip
  · simp
  · simp [a, b, e, d, f, g, i, j, m, k, q, o]; rfl
  iterate 8
    refine regv_pure (s1 := ?_) rfl rfl ?_ ?_ ?_
    rotate_left
    · simp [a, b, e, d, f, g, i, j, m, k, q, o]; rfl
    · first | (simp [a, b, e, d, f, g, i, j, m, k, q, o] <;> omega) | (have hq := o; simp at hq; simp [a, b, e, d, f, g, i, j, m, k, q, o, hq]; done) | skip
  refine regv_nil ?_
  refine Wp.reg_seq (own := fun _ => false) tt_ok ?_
  iterate 3
    refine regv_pure (s1 := ?_) rfl rfl ?_ ?_ ?_
    rotate_left
    · simp [a, b, e, d, f, g, i, j, m, k, q, o]; rfl
    · first | (simp [a, b, e, d, f, g, i, j, m, k, q, o] <;> omega) | (have hq := o; simp at hq; simp [a, b, e, d, f, g, i, j, m, k, q, o, hq]; done) | skip
  cases u : (bm == 0)
  · rw [u, if_neg (by simp)] at h
    refine regv_skip (s1 := ?_) ?_ ?_ ?_
    rotate_left
    · simp [a, b, e, d, f, g, i, j, m, k, q, o, u]; done
    · simp [a, b, e, d, f, g, i, j, m, k, q, o, u]; rfl
    iterate 2
      refine regv_pure (s1 := ?_) rfl rfl ?_ ?_ ?_
      rotate_left
      · simp [a, b, e, d, f, g, i, j, m, k, q, o, u]; rfl
      · first | (simp [a, b, e, d, f, g, i, j, m, k, q, o, u] <;> omega) | (have hq := u; simp at hq; simp [a, b, e, d, f, g, i, j, m, k, q, o, u, hq]; done) | skip
    refine regv_skip (s1 := ?_) ?_ ?_ ?_
    rotate_left
    · simp [a, b, e, d, f, g, i, j, m, k, q, o, u]; done
    · simp [a, b, e, d, f, g, i, j, m, k, q, o, u]; rfl
    refine regv_skip (s1 := ?_) ?_ ?_ ?_
    rotate_left
    · simp [a, b, e, d, f, g, i, j, m, k, q, o, u]; done
    · simp [a, b, e, d, f, g, i, j, m, k, q, o, u]; rfl
    refine regv_skip (s1 := ?_) ?_ ?_ ?_
    rotate_left
    · simp [a, b, e, d, f, g, i, j, m, k, q, o, u]; done
    · simp [a, b, e, d, f, g, i, j, m, k, q, o, u]; rfl
    refine regv_skip (s1 := ?_) ?_ ?_ ?_
    rotate_left
    · simp [a, b, e, d, f, g, i, j, m, k, q, o, u]; done
    · simp [a, b, e, d, f, g, i, j, m, k, q, o, u]; rfl
    iterate 2
      refine regv_pure (s1 := ?_) rfl rfl ?_ ?_ ?_
      rotate_left
      · simp [a, b, e, d, f, g, i, j, m, k, q, o, u]; rfl
      · first | (simp [a, b, e, d, f, g, i, j, m, k, q, o, u] <;> omega) | (have hq := u; simp at hq; simp [a, b, e, d, f, g, i, j, m, k, q, o, u, hq]; done) | skip
    refine regv_skip (s1 := ?_) ?_ ?_ ?_
    rotate_left
    · simp [a, b, e, d, f, g, i, j, m, k, q, o, u]; done
    · simp [a, b, e, d, f, g, i, j, m, k, q, o, u]; rfl
    refine regv_skip (s1 := ?_) ?_ ?_ ?_
    rotate_left
    · simp [a, b, e, d, f, g, i, j, m, k, q, o, u]; done
    · simp [a, b, e, d, f, g, i, j, m, k, q, o, u]; rfl
    refine regv_skip (s1 := ?_) ?_ ?_ ?_
    rotate_left
    · simp [a, b, e, d, f, g, i, j, m, k, q, o, u]; done
    · simp [a, b, e, d, f, g, i, j, m, k, q, o, u]; rfl
    refine regv_skip (s1 := ?_) ?_ ?_ ?_
    rotate_left
    · simp [a, b, e, d, f, g, i, j, m, k, q, o, u]; done
    · simp [a, b, e, d, f, g, i, j, m, k, q, o, u]; rfl
    iterate 2
      refine regv_pure (s1 := ?_) rfl rfl ?_ ?_ ?_
      rotate_left
      · simp [a, b, e, d, f, g, i, j, m, k, q, o, u]; rfl
      · first | (simp [a, b, e, d, f, g, i, j, m, k, q, o, u] <;> omega) | (have hq := u; simp at hq; simp [a, b, e, d, f, g, i, j, m, k, q, o, u, hq]; done) | skip
    refine regv_skip (s1 := ?_) ?_ ?_ ?_
    rotate_left
    · simp [a, b, e, d, f, g, i, j, m, k, q, o, u]; done
    · simp [a, b, e, d, f, g, i, j, m, k, q, o, u]; rfl
    refine regv_skip (s1 := ?_) ?_ ?_ ?_
    rotate_left
    · simp [a, b, e, d, f, g, i, j, m, k, q, o, u]; done
    · simp [a, b, e, d, f, g, i, j, m, k, q, o, u]; rfl
    refine regv_skip (s1 := ?_) ?_ ?_ ?_
    rotate_left
    · simp [a, b, e, d, f, g, i, j, m, k, q, o, u]; done
    · simp [a, b, e, d, f, g, i, j, m, k, q, o, u]; rfl
    refine regv_skip (s1 := ?_) ?_ ?_ ?_
    rotate_left
    · simp [a, b, e, d, f, g, i, j, m, k, q, o, u]; done
    · simp [a, b, e, d, f, g, i, j, m, k, q, o, u]; rfl
    iterate 2
      refine regv_pure (s1 := ?_) rfl rfl ?_ ?_ ?_
      rotate_left
      · simp [a, b, e, d, f, g, i, j, m, k, q, o, u]; rfl
      · first | (simp [a, b, e, d, f, g, i, j, m, k, q, o, u] <;> omega) | (have hq := u; simp at hq; simp [a, b, e, d, f, g, i, j, m, k, q, o, u, hq]; done) | skip
    refine regv_skip (s1 := ?_) ?_ ?_ ?_
    rotate_left
    · simp [a, b, e, d, f, g, i, j, m, k, q, o, u]; done
    · simp [a, b, e, d, f, g, i, j, m, k, q, o, u]; rfl
    refine regv_skip (s1 := ?_) ?_ ?_ ?_
    rotate_left
    · simp [a, b, e, d, f, g, i, j, m, k, q, o, u]; done
    · simp [a, b, e, d, f, g, i, j, m, k, q, o, u]; rfl
    refine regv_skip (s1 := ?_) ?_ ?_ ?_
    rotate_left
    · simp [a, b, e, d, f, g, i, j, m, k, q, o, u]; done
    · simp [a, b, e, d, f, g, i, j, m, k, q, o, u]; rfl
    refine regv_skip (s1 := ?_) ?_ ?_ ?_
    rotate_left
    · simp [a, b, e, d, f, g, i, j, m, k, q, o, u]; done
    · simp [a, b, e, d, f, g, i, j, m, k, q, o, u]; rfl
    iterate 2
      refine regv_pure (s1 := ?_) rfl rfl ?_ ?_ ?_
      rotate_left
      · simp [a, b, e, d, f, g, i, j, m, k, q, o, u]; rfl
      · first | (simp [a, b, e, d, f, g, i, j, m, k, q, o, u] <;> omega) | (have hq := u; simp at hq; simp [a, b, e, d, f, g, i, j, m, k, q, o, u, hq]; done) | skip
    refine regv_skip (s1 := ?_) ?_ ?_ ?_
    rotate_left
    · simp [a, b, e, d, f, g, i, j, m, k, q, o, u]; done
    · simp [a, b, e, d, f, g, i, j, m, k, q, o, u]; rfl
    refine regv_skip (s1 := ?_) ?_ ?_ ?_
    rotate_left
    · simp [a, b, e, d, f, g, i, j, m, k, q, o, u]; done
    · simp [a, b, e, d, f, g, i, j, m, k, q, o, u]; rfl
    iterate 2
      refine regv_pure (s1 := ?_) rfl rfl ?_ ?_ ?_
      rotate_left
      · simp [a, b, e, d, f, g, i, j, m, k, q, o, u]; rfl
      · first | (simp [a, b, e, d, f, g, i, j, m, k, q, o, u] <;> omega) | (have hq := u; simp at hq; simp [a, b, e, d, f, g, i, j, m, k, q, o, u, hq]; done) | skip
    refine regv_skip (s1 := ?_) ?_ ?_ ?_
    rotate_left
    · simp [a, b, e, d, f, g, i, j, m, k, q, o, u]; done
    · simp [a, b, e, d, f, g, i, j, m, k, q, o, u]; rfl
    refine regv_skip (s1 := ?_) ?_ ?_ ?_
    rotate_left
    · simp [a, b, e, d, f, g, i, j, m, k, q, o, u]; done
    · simp [a, b, e, d, f, g, i, j, m, k, q, o, u]; rfl
    iterate 2
      refine regv_pure (s1 := ?_) rfl rfl ?_ ?_ ?_
      rotate_left
      · simp [a, b, e, d, f, g, i, j, m, k, q, o, u]; rfl
      · first | (simp [a, b, e, d, f, g, i, j, m, k, q, o, u] <;> omega) | (have hq := u; simp at hq; simp [a, b, e, d, f, g, i, j, m, k, q, o, u, hq]; done) | skip
    refine regv_skip (s1 := ?_) ?_ ?_ ?_
    rotate_left
    · simp [a, b, e, d, f, g, i, j, m, k, q, o, u]; done
    · simp [a, b, e, d, f, g, i, j, m, k, q, o, u]; rfl
    refine regv_skip (s1 := ?_) ?_ ?_ ?_
    rotate_left
    · simp [a, b, e, d, f, g, i, j, m, k, q, o, u]; done
    · simp [a, b, e, d, f, g, i, j, m, k, q, o, u]; rfl
    refine regv_skip (s1 := ?_) ?_ ?_ ?_
    rotate_left
    · simp [a, b, e, d, f, g, i, j, m, k, q, o, u]; done
    · simp [a, b, e, d, f, g, i, j, m, k, q, o, u]; rfl
    refine regv_skip (s1 := ?_) ?_ ?_ ?_
    rotate_left
    · simp [a, b, e, d, f, g, i, j, m, k, q, o, u]; done
    · simp [a, b, e, d, f, g, i, j, m, k, q, o, u]; rfl
    iterate 2
      refine regv_pure (s1 := ?_) rfl rfl ?_ ?_ ?_
      rotate_left
      · simp [a, b, e, d, f, g, i, j, m, k, q, o, u]; rfl
      · first | (simp [a, b, e, d, f, g, i, j, m, k, q, o, u] <;> omega) | (have hq := u; simp at hq; simp [a, b, e, d, f, g, i, j, m, k, q, o, u, hq]; done) | skip
    refine regv_skip (s1 := ?_) ?_ ?_ ?_
    rotate_left
    · simp [a, b, e, d, f, g, i, j, m, k, q, o, u]; done
    · simp [a, b, e, d, f, g, i, j, m, k, q, o, u]; rfl
    refine regv_skip (s1 := ?_) ?_ ?_ ?_
    rotate_left
    · simp [a, b, e, d, f, g, i, j, m, k, q, o, u]; done
    · simp [a, b, e, d, f, g, i, j, m, k, q, o, u]; rfl
    refine regv_skip (s1 := ?_) ?_ ?_ ?_
    rotate_left
    · simp [a, b, e, d, f, g, i, j, m, k, q, o, u]; done
    · simp [a, b, e, d, f, g, i, j, m, k, q, o, u]; rfl
    refine regv_skip (s1 := ?_) ?_ ?_ ?_
    rotate_left
    · simp [a, b, e, d, f, g, i, j, m, k, q, o, u]; done
    · simp [a, b, e, d, f, g, i, j, m, k, q, o, u]; rfl
    refine regv_skip (s1 := ?_) ?_ ?_ ?_
    rotate_left
    · simp [a, b, e, d, f, g, i, j, m, k, q, o, u]; done
    · simp [a, b, e, d, f, g, i, j, m, k, q, o, u]; rfl
    iterate 2
      refine regv_pure (s1 := ?_) rfl rfl ?_ ?_ ?_
      rotate_left
      · simp [a, b, e, d, f, g, i, j, m, k, q, o, u]; rfl
      · first | (simp [a, b, e, d, f, g, i, j, m, k, q, o, u] <;> omega) | (have hq := u; simp at hq; simp [a, b, e, d, f, g, i, j, m, k, q, o, u, hq]; done) | skip
    refine regv_nil ?_
    cases h
    refine Wp.ret (endQ_ret0 rfl ?_)
    repeat' first | exact All2.nil | refine All2.cons ?_ ?_ | refine AvLe.tups ?_ | refine AvLe.aggs ?_
    all_goals first
      | (exact AvLe.refl _ rfl)
      | (exact AvLe.nil _)
      | (exact AvLe.znil _)
      | (exact AvLe.ghost _ rfl)
      | (exact AvLe.zghost _ rfl)
      | (exact AvLe.sl' rfl (by simp [a, b, e, d, f, g, i, j, m, k, q, o, u]; done) (by simp [a, b, e, d, f, g, i, j, m, k, q, o, u]; done))
      | (exact AvLe.frz' rfl rfl rfl (by simp [a, b, e, d, f, g, i, j, m, k, q, o, u]; done) (by simp [a, b, e, d, f, g, i, j, m, k, q, o, u]; done) (by simp [a, b, e, d, f, g, i, j, m, k, q, o, u]; done))
      | (exact AvLe.list' (by simp [a, b, e, d, f, g, i, j, m, k, q, o, u]; done) (by simp [a, b, e, d, f, g, i, j, m, k, q, o, u]; done))
      | (exact AvLe.eq (by simp [a, b, e, d, f, g, i, j, m, k, q, o, u]; done) rfl)
  · rw [u, if_pos rfl] at h
    refine regv_pure (s1 := ?_) rfl ?_ ?_ ?_ ?_
    rotate_left
    · simp [a, b, e, d, f, g, i, j, m, k, q, o, u]; done
    · simp [a, b, e, d, f, g, i, j, m, k, q, o, u]; rfl
    · first | (simp [a, b, e, d, f, g, i, j, m, k, q, o, u] <;> omega) | (have hq := u; simp at hq; simp [a, b, e, d, f, g, i, j, m, k, q, o, u, hq]; done) | skip
    iterate 2
      refine regv_pure (s1 := ?_) rfl rfl ?_ ?_ ?_
      rotate_left
      · simp [a, b, e, d, f, g, i, j, m, k, q, o, u]; rfl
      · first | (simp [a, b, e, d, f, g, i, j, m, k, q, o, u] <;> omega) | (have hq := u; simp at hq; simp [a, b, e, d, f, g, i, j, m, k, q, o, u, hq]; done) | skip
    cases v : bk
    · rw [v, if_neg (by simp)] at h
      refine regv_skip (s1 := ?_) ?_ ?_ ?_
      rotate_left
      · simp [a, b, e, d, f, g, i, j, m, k, q, o, u, v]; done
      · simp [a, b, e, d, f, g, i, j, m, k, q, o, u, v]; rfl
      refine regv_skip (s1 := ?_) ?_ ?_ ?_
      rotate_left
      · simp [a, b, e, d, f, g, i, j, m, k, q, o, u, v]; done
      · simp [a, b, e, d, f, g, i, j, m, k, q, o, u, v]; rfl
      refine regv_skip (s1 := ?_) ?_ ?_ ?_
      rotate_left
      · simp [a, b, e, d, f, g, i, j, m, k, q, o, u, v]; done
      · simp [a, b, e, d, f, g, i, j, m, k, q, o, u, v]; rfl
      refine regv_skip (s1 := ?_) ?_ ?_ ?_
      rotate_left
      · simp [a, b, e, d, f, g, i, j, m, k, q, o, u, v]; done
      · simp [a, b, e, d, f, g, i, j, m, k, q, o, u, v]; rfl
      iterate 2
        refine regv_pure (s1 := ?_) rfl rfl ?_ ?_ ?_
        rotate_left
        · simp [a, b, e, d, f, g, i, j, m, k, q, o, u, v]; rfl
        · first | (simp [a, b, e, d, f, g, i, j, m, k, q, o, u, v] <;> omega) | (have hq := v; simp at hq; simp [a, b, e, d, f, g, i, j, m, k, q, o, u, v, hq]; done) | skip
      refine regv_skip (s1 := ?_) ?_ ?_ ?_
      rotate_left
      · simp [a, b, e, d, f, g, i, j, m, k, q, o, u, v]; done
      · simp [a, b, e, d, f, g, i, j, m, k, q, o, u, v]; rfl
      refine regv_skip (s1 := ?_) ?_ ?_ ?_
      rotate_left
      · simp [a, b, e, d, f, g, i, j, m, k, q, o, u, v]; done
      · simp [a, b, e, d, f, g, i, j, m, k, q, o, u, v]; rfl
      refine regv_skip (s1 := ?_) ?_ ?_ ?_
      rotate_left
      · simp [a, b, e, d, f, g, i, j, m, k, q, o, u, v]; done
      · simp [a, b, e, d, f, g, i, j, m, k, q, o, u, v]; rfl
      refine regv_skip (s1 := ?_) ?_ ?_ ?_
      rotate_left
      · simp [a, b, e, d, f, g, i, j, m, k, q, o, u, v]; done
      · simp [a, b, e, d, f, g, i, j, m, k, q, o, u, v]; rfl
      iterate 2
        refine regv_pure (s1 := ?_) rfl rfl ?_ ?_ ?_
        rotate_left
        · simp [a, b, e, d, f, g, i, j, m, k, q, o, u, v]; rfl
        · first | (simp [a, b, e, d, f, g, i, j, m, k, q, o, u, v] <;> omega) | (have hq := v; simp at hq; simp [a, b, e, d, f, g, i, j, m, k, q, o, u, v, hq]; done) | skip
      refine regv_skip (s1 := ?_) ?_ ?_ ?_
      rotate_left
      · simp [a, b, e, d, f, g, i, j, m, k, q, o, u, v]; done
      · simp [a, b, e, d, f, g, i, j, m, k, q, o, u, v]; rfl
      refine regv_skip (s1 := ?_) ?_ ?_ ?_
      rotate_left
      · simp [a, b, e, d, f, g, i, j, m, k, q, o, u, v]; done
      · simp [a, b, e, d, f, g, i, j, m, k, q, o, u, v]; rfl
      refine regv_skip (s1 := ?_) ?_ ?_ ?_
      rotate_left
      · simp [a, b, e, d, f, g, i, j, m, k, q, o, u, v]; done
      · simp [a, b, e, d, f, g, i, j, m, k, q, o, u, v]; rfl
      refine regv_skip (s1 := ?_) ?_ ?_ ?_
      rotate_left
      · simp [a, b, e, d, f, g, i, j, m, k, q, o, u, v]; done
      · simp [a, b, e, d, f, g, i, j, m, k, q, o, u, v]; rfl
      iterate 2
        refine regv_pure (s1 := ?_) rfl rfl ?_ ?_ ?_
        rotate_left
        · simp [a, b, e, d, f, g, i, j, m, k, q, o, u, v]; rfl
        · first | (simp [a, b, e, d, f, g, i, j, m, k, q, o, u, v] <;> omega) | (have hq := v; simp at hq; simp [a, b, e, d, f, g, i, j, m, k, q, o, u, v, hq]; done) | skip
      refine regv_skip (s1 := ?_) ?_ ?_ ?_
      rotate_left
      · simp [a, b, e, d, f, g, i, j, m, k, q, o, u, v]; done
      · simp [a, b, e, d, f, g, i, j, m, k, q, o, u, v]; rfl
      refine regv_skip (s1 := ?_) ?_ ?_ ?_
      rotate_left
      · simp [a, b, e, d, f, g, i, j, m, k, q, o, u, v]; done
      · simp [a, b, e, d, f, g, i, j, m, k, q, o, u, v]; rfl
      refine regv_skip (s1 := ?_) ?_ ?_ ?_
      rotate_left
      · simp [a, b, e, d, f, g, i, j, m, k, q, o, u, v]; done
      · simp [a, b, e, d, f, g, i, j, m, k, q, o, u, v]; rfl
      refine regv_skip (s1 := ?_) ?_ ?_ ?_
      rotate_left
      · simp [a, b, e, d, f, g, i, j, m, k, q, o, u, v]; done
      · simp [a, b, e, d, f, g, i, j, m, k, q, o, u, v]; rfl
      iterate 2
        refine regv_pure (s1 := ?_) rfl rfl ?_ ?_ ?_
        rotate_left
        · simp [a, b, e, d, f, g, i, j, m, k, q, o, u, v]; rfl
        · first | (simp [a, b, e, d, f, g, i, j, m, k, q, o, u, v] <;> omega) | (have hq := v; simp at hq; simp [a, b, e, d, f, g, i, j, m, k, q, o, u, v, hq]; done) | skip
      refine regv_skip (s1 := ?_) ?_ ?_ ?_
      rotate_left
      · simp [a, b, e, d, f, g, i, j, m, k, q, o, u, v]; done
      · simp [a, b, e, d, f, g, i, j, m, k, q, o, u, v]; rfl
      refine regv_skip (s1 := ?_) ?_ ?_ ?_
      rotate_left
      · simp [a, b, e, d, f, g, i, j, m, k, q, o, u, v]; done
      · simp [a, b, e, d, f, g, i, j, m, k, q, o, u, v]; rfl
      iterate 2
        refine regv_pure (s1 := ?_) rfl rfl ?_ ?_ ?_
        rotate_left
        · simp [a, b, e, d, f, g, i, j, m, k, q, o, u, v]; rfl
        · first | (simp [a, b, e, d, f, g, i, j, m, k, q, o, u, v] <;> omega) | (have hq := v; simp at hq; simp [a, b, e, d, f, g, i, j, m, k, q, o, u, v, hq]; done) | skip
      refine regv_skip (s1 := ?_) ?_ ?_ ?_
      rotate_left
      · simp [a, b, e, d, f, g, i, j, m, k, q, o, u, v]; done
      · simp [a, b, e, d, f, g, i, j, m, k, q, o, u, v]; rfl
      refine regv_skip (s1 := ?_) ?_ ?_ ?_
      rotate_left
      · simp [a, b, e, d, f, g, i, j, m, k, q, o, u, v]; done
      · simp [a, b, e, d, f, g, i, j, m, k, q, o, u, v]; rfl
      iterate 2
        refine regv_pure (s1 := ?_) rfl rfl ?_ ?_ ?_
        rotate_left
        · simp [a, b, e, d, f, g, i, j, m, k, q, o, u, v]; rfl
        · first | (simp [a, b, e, d, f, g, i, j, m, k, q, o, u, v] <;> omega) | (have hq := v; simp at hq; simp [a, b, e, d, f, g, i, j, m, k, q, o, u, v, hq]; done) | skip
      refine regv_skip (s1 := ?_) ?_ ?_ ?_
      rotate_left
      · simp [a, b, e, d, f, g, i, j, m, k, q, o, u, v]; done
      · simp [a, b, e, d, f, g, i, j, m, k, q, o, u, v]; rfl
      refine regv_skip (s1 := ?_) ?_ ?_ ?_
      rotate_left
      · simp [a, b, e, d, f, g, i, j, m, k, q, o, u, v]; done
      · simp [a, b, e, d, f, g, i, j, m, k, q, o, u, v]; rfl
      refine regv_skip (s1 := ?_) ?_ ?_ ?_
      rotate_left
      · simp [a, b, e, d, f, g, i, j, m, k, q, o, u, v]; done
      · simp [a, b, e, d, f, g, i, j, m, k, q, o, u, v]; rfl
      refine regv_skip (s1 := ?_) ?_ ?_ ?_
      rotate_left
      · simp [a, b, e, d, f, g, i, j, m, k, q, o, u, v]; done
      · simp [a, b, e, d, f, g, i, j, m, k, q, o, u, v]; rfl
      iterate 2
        refine regv_pure (s1 := ?_) rfl rfl ?_ ?_ ?_
        rotate_left
        · simp [a, b, e, d, f, g, i, j, m, k, q, o, u, v]; rfl
        · first | (simp [a, b, e, d, f, g, i, j, m, k, q, o, u, v] <;> omega) | (have hq := v; simp at hq; simp [a, b, e, d, f, g, i, j, m, k, q, o, u, v, hq]; done) | skip
      refine regv_skip (s1 := ?_) ?_ ?_ ?_
      rotate_left
      · simp [a, b, e, d, f, g, i, j, m, k, q, o, u, v]; done
      · simp [a, b, e, d, f, g, i, j, m, k, q, o, u, v]; rfl
      refine regv_skip (s1 := ?_) ?_ ?_ ?_
      rotate_left
      · simp [a, b, e, d, f, g, i, j, m, k, q, o, u, v]; done
      · simp [a, b, e, d, f, g, i, j, m, k, q, o, u, v]; rfl
      refine regv_skip (s1 := ?_) ?_ ?_ ?_
      rotate_left
      · simp [a, b, e, d, f, g, i, j, m, k, q, o, u, v]; done
      · simp [a, b, e, d, f, g, i, j, m, k, q, o, u, v]; rfl
      refine regv_skip (s1 := ?_) ?_ ?_ ?_
      rotate_left
      · simp [a, b, e, d, f, g, i, j, m, k, q, o, u, v]; done
      · simp [a, b, e, d, f, g, i, j, m, k, q, o, u, v]; rfl
      refine regv_skip (s1 := ?_) ?_ ?_ ?_
      rotate_left
      · simp [a, b, e, d, f, g, i, j, m, k, q, o, u, v]; done
      · simp [a, b, e, d, f, g, i, j, m, k, q, o, u, v]; rfl
      iterate 2
        refine regv_pure (s1 := ?_) rfl rfl ?_ ?_ ?_
        rotate_left
        · simp [a, b, e, d, f, g, i, j, m, k, q, o, u, v]; rfl
        · first | (simp [a, b, e, d, f, g, i, j, m, k, q, o, u, v] <;> omega) | (have hq := v; simp at hq; simp [a, b, e, d, f, g, i, j, m, k, q, o, u, v, hq]; done) | skip
      refine regv_nil ?_
      cases h
      refine Wp.ret (endQ_ret0 rfl ?_)
      repeat' first | exact All2.nil | refine All2.cons ?_ ?_ | refine AvLe.tups ?_ | refine AvLe.aggs ?_
      all_goals first
        | (exact AvLe.refl _ rfl)
        | (exact AvLe.nil _)
        | (exact AvLe.znil _)
        | (exact AvLe.ghost _ rfl)
        | (exact AvLe.zghost _ rfl)
        | (exact AvLe.sl' rfl (by simp [a, b, e, d, f, g, i, j, m, k, q, o, u, v]; done) (by simp [a, b, e, d, f, g, i, j, m, k, q, o, u, v]; done))
        | (exact AvLe.frz' rfl rfl rfl (by simp [a, b, e, d, f, g, i, j, m, k, q, o, u, v]; done) (by simp [a, b, e, d, f, g, i, j, m, k, q, o, u, v]; done) (by simp [a, b, e, d, f, g, i, j, m, k, q, o, u, v]; done))
        | (exact AvLe.list' (by simp [a, b, e, d, f, g, i, j, m, k, q, o, u, v]; done) (by simp [a, b, e, d, f, g, i, j, m, k, q, o, u, v]; done))
        | (exact AvLe.eq (by simp [a, b, e, d, f, g, i, j, m, k, q, o, u, v]; done) rfl)
    · rw [v, if_pos rfl] at h
      refine regv_pure (s1 := ?_) rfl ?_ ?_ ?_ ?_
      rotate_left
      · simp [a, b, e, d, f, g, i, j, m, k, q, o, u, v]; done
      · simp [a, b, e, d, f, g, i, j, m, k, q, o, u, v]; rfl
      · first | (simp [a, b, e, d, f, g, i, j, m, k, q, o, u, v] <;> omega) | (have hq := v; simp at hq; simp [a, b, e, d, f, g, i, j, m, k, q, o, u, v, hq]; done) | skip
      refine regv_pure (s1 := ?_) rfl ?_ ?_ ?_ ?_
      rotate_left
      · simp [a, b, e, d, f, g, i, j, m, k, q, o, u, v]; done
      · simp [a, b, e, d, f, g, i, j, m, k, q, o, u, v]; rfl
      · first | (simp [a, b, e, d, f, g, i, j, m, k, q, o, u, v] <;> omega) | (have hq := v; simp at hq; simp [a, b, e, d, f, g, i, j, m, k, q, o, u, v, hq]; done) | skip
      refine regv_pure (s1 := ?_) rfl ?_ ?_ ?_ ?_
      rotate_left
      · simp [a, b, e, d, f, g, i, j, m, k, q, o, u, v]; done
      · simp [a, b, e, d, f, g, i, j, m, k, q, o, u, v]; rfl
      · first | (simp [a, b, e, d, f, g, i, j, m, k, q, o, u, v] <;> omega) | (have hq := v; simp at hq; simp [a, b, e, d, f, g, i, j, m, k, q, o, u, v, hq]; done) | skip
      refine regv_pure (s1 := ?_) rfl ?_ ?_ ?_ ?_
      rotate_left
      · simp [a, b, e, d, f, g, i, j, m, k, q, o, u, v]; done
      · simp [a, b, e, d, f, g, i, j, m, k, q, o, u, v]; rfl
      · first | (simp [a, b, e, d, f, g, i, j, m, k, q, o, u, v] <;> omega) | (have hq := v; simp at hq; simp [a, b, e, d, f, g, i, j, m, k, q, o, u, v, hq]; done) | skip
      iterate 2
        refine regv_pure (s1 := ?_) rfl rfl ?_ ?_ ?_
        rotate_left
        · simp [a, b, e, d, f, g, i, j, m, k, q, o, u, v]; rfl
        · first | (simp [a, b, e, d, f, g, i, j, m, k, q, o, u, v] <;> omega) | (have hq := v; simp at hq; simp [a, b, e, d, f, g, i, j, m, k, q, o, u, v, hq]; done) | skip
      cases w : ((bd.Q.length : Int) == 1)
      · rw [w, if_neg (by simp)] at h
        refine regv_skip (s1 := ?_) ?_ ?_ ?_
        rotate_left
        · simp [a, b, e, d, f, g, i, j, m, k, q, o, u, v, w]; done
        · simp [a, b, e, d, f, g, i, j, m, k, q, o, u, v, w]; rfl
        refine regv_skip (s1 := ?_) ?_ ?_ ?_
        rotate_left
        · simp [a, b, e, d, f, g, i, j, m, k, q, o, u, v, w]; done
        · simp [a, b, e, d, f, g, i, j, m, k, q, o, u, v, w]; rfl
        refine regv_skip (s1 := ?_) ?_ ?_ ?_
        rotate_left
        · simp [a, b, e, d, f, g, i, j, m, k, q, o, u, v, w]; done
        · simp [a, b, e, d, f, g, i, j, m, k, q, o, u, v, w]; rfl
        refine regv_skip (s1 := ?_) ?_ ?_ ?_
        rotate_left
        · simp [a, b, e, d, f, g, i, j, m, k, q, o, u, v, w]; done
        · simp [a, b, e, d, f, g, i, j, m, k, q, o, u, v, w]; rfl
        iterate 2
          refine regv_pure (s1 := ?_) rfl rfl ?_ ?_ ?_
          rotate_left
          · simp [a, b, e, d, f, g, i, j, m, k, q, o, u, v, w]; rfl
          · first | (simp [a, b, e, d, f, g, i, j, m, k, q, o, u, v, w] <;> omega) | (have hq := w; simp at hq; simp [a, b, e, d, f, g, i, j, m, k, q, o, u, v, w, hq]; done) | skip
        refine regv_skip (s1 := ?_) ?_ ?_ ?_
        rotate_left
        · simp [a, b, e, d, f, g, i, j, m, k, q, o, u, v, w]; done
        · simp [a, b, e, d, f, g, i, j, m, k, q, o, u, v, w]; rfl
        refine regv_skip (s1 := ?_) ?_ ?_ ?_
        rotate_left
        · simp [a, b, e, d, f, g, i, j, m, k, q, o, u, v, w]; done
        · simp [a, b, e, d, f, g, i, j, m, k, q, o, u, v, w]; rfl
        refine regv_skip (s1 := ?_) ?_ ?_ ?_
        rotate_left
        · simp [a, b, e, d, f, g, i, j, m, k, q, o, u, v, w]; done
        · simp [a, b, e, d, f, g, i, j, m, k, q, o, u, v, w]; rfl
        refine regv_skip (s1 := ?_) ?_ ?_ ?_
        rotate_left
        · simp [a, b, e, d, f, g, i, j, m, k, q, o, u, v, w]; done
        · simp [a, b, e, d, f, g, i, j, m, k, q, o, u, v, w]; rfl
        iterate 2
          refine regv_pure (s1 := ?_) rfl rfl ?_ ?_ ?_
          rotate_left
          · simp [a, b, e, d, f, g, i, j, m, k, q, o, u, v, w]; rfl
          · first | (simp [a, b, e, d, f, g, i, j, m, k, q, o, u, v, w] <;> omega) | (have hq := w; simp at hq; simp [a, b, e, d, f, g, i, j, m, k, q, o, u, v, w, hq]; done) | skip
        refine regv_skip (s1 := ?_) ?_ ?_ ?_
        rotate_left
        · simp [a, b, e, d, f, g, i, j, m, k, q, o, u, v, w]; done
        · simp [a, b, e, d, f, g, i, j, m, k, q, o, u, v, w]; rfl
        refine regv_skip (s1 := ?_) ?_ ?_ ?_
        rotate_left
        · simp [a, b, e, d, f, g, i, j, m, k, q, o, u, v, w]; done
        · simp [a, b, e, d, f, g, i, j, m, k, q, o, u, v, w]; rfl
        refine regv_skip (s1 := ?_) ?_ ?_ ?_
        rotate_left
        · simp [a, b, e, d, f, g, i, j, m, k, q, o, u, v, w]; done
        · simp [a, b, e, d, f, g, i, j, m, k, q, o, u, v, w]; rfl
        refine regv_skip (s1 := ?_) ?_ ?_ ?_
        rotate_left
        · simp [a, b, e, d, f, g, i, j, m, k, q, o, u, v, w]; done
        · simp [a, b, e, d, f, g, i, j, m, k, q, o, u, v, w]; rfl
        iterate 2
          refine regv_pure (s1 := ?_) rfl rfl ?_ ?_ ?_
          rotate_left
          · simp [a, b, e, d, f, g, i, j, m, k, q, o, u, v, w]; rfl
          · first | (simp [a, b, e, d, f, g, i, j, m, k, q, o, u, v, w] <;> omega) | (have hq := w; simp at hq; simp [a, b, e, d, f, g, i, j, m, k, q, o, u, v, w, hq]; done) | skip
        refine regv_skip (s1 := ?_) ?_ ?_ ?_
        rotate_left
        · simp [a, b, e, d, f, g, i, j, m, k, q, o, u, v, w]; done
        · simp [a, b, e, d, f, g, i, j, m, k, q, o, u, v, w]; rfl
        refine regv_skip (s1 := ?_) ?_ ?_ ?_
        rotate_left
        · simp [a, b, e, d, f, g, i, j, m, k, q, o, u, v, w]; done
        · simp [a, b, e, d, f, g, i, j, m, k, q, o, u, v, w]; rfl
        iterate 2
          refine regv_pure (s1 := ?_) rfl rfl ?_ ?_ ?_
          rotate_left
          · simp [a, b, e, d, f, g, i, j, m, k, q, o, u, v, w]; rfl
          · first | (simp [a, b, e, d, f, g, i, j, m, k, q, o, u, v, w] <;> omega) | (have hq := w; simp at hq; simp [a, b, e, d, f, g, i, j, m, k, q, o, u, v, w, hq]; done) | skip
        refine regv_skip (s1 := ?_) ?_ ?_ ?_
        rotate_left
        · simp [a, b, e, d, f, g, i, j, m, k, q, o, u, v, w]; done
        · simp [a, b, e, d, f, g, i, j, m, k, q, o, u, v, w]; rfl
        refine regv_skip (s1 := ?_) ?_ ?_ ?_
        rotate_left
        · simp [a, b, e, d, f, g, i, j, m, k, q, o, u, v, w]; done
        · simp [a, b, e, d, f, g, i, j, m, k, q, o, u, v, w]; rfl
        iterate 2
          refine regv_pure (s1 := ?_) rfl rfl ?_ ?_ ?_
          rotate_left
          · simp [a, b, e, d, f, g, i, j, m, k, q, o, u, v, w]; rfl
          · first | (simp [a, b, e, d, f, g, i, j, m, k, q, o, u, v, w] <;> omega) | (have hq := w; simp at hq; simp [a, b, e, d, f, g, i, j, m, k, q, o, u, v, w, hq]; done) | skip
        refine regv_skip (s1 := ?_) ?_ ?_ ?_
        rotate_left
        · simp [a, b, e, d, f, g, i, j, m, k, q, o, u, v, w]; done
        · simp [a, b, e, d, f, g, i, j, m, k, q, o, u, v, w]; rfl
        refine regv_skip (s1 := ?_) ?_ ?_ ?_
        rotate_left
        · simp [a, b, e, d, f, g, i, j, m, k, q, o, u, v, w]; done
        · simp [a, b, e, d, f, g, i, j, m, k, q, o, u, v, w]; rfl
        refine regv_skip (s1 := ?_) ?_ ?_ ?_
        rotate_left
        · simp [a, b, e, d, f, g, i, j, m, k, q, o, u, v, w]; done
        · simp [a, b, e, d, f, g, i, j, m, k, q, o, u, v, w]; rfl
        refine regv_skip (s1 := ?_) ?_ ?_ ?_
        rotate_left
        · simp [a, b, e, d, f, g, i, j, m, k, q, o, u, v, w]; done
        · simp [a, b, e, d, f, g, i, j, m, k, q, o, u, v, w]; rfl
        iterate 2
          refine regv_pure (s1 := ?_) rfl rfl ?_ ?_ ?_
          rotate_left
          · simp [a, b, e, d, f, g, i, j, m, k, q, o, u, v, w]; rfl
          · first | (simp [a, b, e, d, f, g, i, j, m, k, q, o, u, v, w] <;> omega) | (have hq := w; simp at hq; simp [a, b, e, d, f, g, i, j, m, k, q, o, u, v, w, hq]; done) | skip
        refine regv_skip (s1 := ?_) ?_ ?_ ?_
        rotate_left
        · simp [a, b, e, d, f, g, i, j, m, k, q, o, u, v, w]; done
        · simp [a, b, e, d, f, g, i, j, m, k, q, o, u, v, w]; rfl
        refine regv_skip (s1 := ?_) ?_ ?_ ?_
        rotate_left
        · simp [a, b, e, d, f, g, i, j, m, k, q, o, u, v, w]; done
        · simp [a, b, e, d, f, g, i, j, m, k, q, o, u, v, w]; rfl
        refine regv_skip (s1 := ?_) ?_ ?_ ?_
        rotate_left
        · simp [a, b, e, d, f, g, i, j, m, k, q, o, u, v, w]; done
        · simp [a, b, e, d, f, g, i, j, m, k, q, o, u, v, w]; rfl
        refine regv_skip (s1 := ?_) ?_ ?_ ?_
        rotate_left
        · simp [a, b, e, d, f, g, i, j, m, k, q, o, u, v, w]; done
        · simp [a, b, e, d, f, g, i, j, m, k, q, o, u, v, w]; rfl
        refine regv_skip (s1 := ?_) ?_ ?_ ?_
        rotate_left
        · simp [a, b, e, d, f, g, i, j, m, k, q, o, u, v, w]; done
        · simp [a, b, e, d, f, g, i, j, m, k, q, o, u, v, w]; rfl
        iterate 2
          refine regv_pure (s1 := ?_) rfl rfl ?_ ?_ ?_
          rotate_left
          · simp [a, b, e, d, f, g, i, j, m, k, q, o, u, v, w]; rfl
          · first | (simp [a, b, e, d, f, g, i, j, m, k, q, o, u, v, w] <;> omega) | (have hq := w; simp at hq; simp [a, b, e, d, f, g, i, j, m, k, q, o, u, v, w, hq]; done) | skip
        refine regv_nil ?_
        cases h
        refine Wp.ret (endQ_ret0 rfl ?_)
        repeat' first | exact All2.nil | refine All2.cons ?_ ?_ | refine AvLe.tups ?_ | refine AvLe.aggs ?_
        all_goals first
          | (exact AvLe.refl _ rfl)
          | (exact AvLe.nil _)
          | (exact AvLe.znil _)
          | (exact AvLe.ghost _ rfl)
          | (exact AvLe.zghost _ rfl)
          | (exact AvLe.sl' rfl (by simp [a, b, e, d, f, g, i, j, m, k, q, o, u, v, w]; done) (by simp [a, b, e, d, f, g, i, j, m, k, q, o, u, v, w]; done))
          | (exact AvLe.frz' rfl rfl rfl (by simp [a, b, e, d, f, g, i, j, m, k, q, o, u, v, w]; done) (by simp [a, b, e, d, f, g, i, j, m, k, q, o, u, v, w]; done) (by simp [a, b, e, d, f, g, i, j, m, k, q, o, u, v, w]; done))
          | (exact AvLe.list' (by simp [a, b, e, d, f, g, i, j, m, k, q, o, u, v, w]; done) (by simp [a, b, e, d, f, g, i, j, m, k, q, o, u, v, w]; done))
          | (exact AvLe.eq (by simp [a, b, e, d, f, g, i, j, m, k, q, o, u, v, w]; done) rfl)
      · rw [w, if_pos rfl] at h
        refine regv_pure (s1 := ?_) rfl ?_ ?_ ?_ ?_
        rotate_left
        · simp [a, b, e, d, f, g, i, j, m, k, q, o, u, v, w]; done
        · simp [a, b, e, d, f, g, i, j, m, k, q, o, u, v, w]; rfl
        · first | (simp [a, b, e, d, f, g, i, j, m, k, q, o, u, v, w] <;> omega) | (have hq := w; simp at hq; simp [a, b, e, d, f, g, i, j, m, k, q, o, u, v, w, hq]; done) | skip
        refine regv_pure (s1 := ?_) rfl ?_ ?_ ?_ ?_
        rotate_left
        · simp [a, b, e, d, f, g, i, j, m, k, q, o, u, v, w]; done
        · simp [a, b, e, d, f, g, i, j, m, k, q, o, u, v, w]; rfl
        · first | (simp [a, b, e, d, f, g, i, j, m, k, q, o, u, v, w] <;> omega) | (have hq := w; simp at hq; simp [a, b, e, d, f, g, i, j, m, k, q, o, u, v, w, hq]; done) | skip
        obtain ⟨bu, bg, h⟩ := obind h
        obtain ⟨ab, aa, z⟩ := atI_some bg
        try simp [a, b, e, d, f, g, i, j, m, k, q, o, u, v, w] at aa
        try simp only [Int.toNat_natCast, Int.reduceToNat, Nat.zero_add, Nat.add_zero] at z
        have y := getElem_of z
        refine regv_pure (s1 := ?_) rfl ?_ ?_ ?_ ?_
        rotate_left
        · simp [a, b, e, d, f, g, i, j, m, k, q, o, u, v, w, ab, aa, z, y]; done
        · simp [a, b, e, d, f, g, i, j, m, k, q, o, u, v, w, ab, aa, z, y]; rfl
        · first | (simp [a, b, e, d, f, g, i, j, m, k, q, o, u, v, w, ab, aa, z, y] <;> omega) | (have hq := y; simp at hq; simp [a, b, e, d, f, g, i, j, m, k, q, o, u, v, w, ab, aa, z, y, hq]; done) | skip
        refine regv_pure (s1 := ?_) rfl ?_ ?_ ?_ ?_
        rotate_left
        · simp [a, b, e, d, f, g, i, j, m, k, q, o, u, v, w, ab, aa, z, y]; done
        · simp [a, b, e, d, f, g, i, j, m, k, q, o, u, v, w, ab, aa, z, y]; rfl
        · first | (simp [a, b, e, d, f, g, i, j, m, k, q, o, u, v, w, ab, aa, z, y] <;> omega) | (have hq := y; simp at hq; simp [a, b, e, d, f, g, i, j, m, k, q, o, u, v, w, ab, aa, z, y, hq]; done) | skip
        iterate 2
          refine regv_pure (s1 := ?_) rfl rfl ?_ ?_ ?_
          rotate_left
          · simp [a, b, e, d, f, g, i, j, m, k, q, o, u, v, w, ab, aa, z, y]; rfl
          · first | (simp [a, b, e, d, f, g, i, j, m, k, q, o, u, v, w, ab, aa, z, y] <;> omega) | (have hq := y; simp at hq; simp [a, b, e, d, f, g, i, j, m, k, q, o, u, v, w, ab, aa, z, y, hq]; done) | skip
        cases ac : bu
        · rw [ac, if_neg (by simp)] at h
          refine regv_skip (s1 := ?_) ?_ ?_ ?_
          rotate_left
          · simp [a, b, e, d, f, g, i, j, m, k, q, o, u, v, w, ab, aa, z, y, ac]; done
          · simp [a, b, e, d, f, g, i, j, m, k, q, o, u, v, w, ab, aa, z, y, ac]; rfl
          refine regv_skip (s1 := ?_) ?_ ?_ ?_
          rotate_left
          · simp [a, b, e, d, f, g, i, j, m, k, q, o, u, v, w, ab, aa, z, y, ac]; done
          · simp [a, b, e, d, f, g, i, j, m, k, q, o, u, v, w, ab, aa, z, y, ac]; rfl
          refine regv_skip (s1 := ?_) ?_ ?_ ?_
          rotate_left
          · simp [a, b, e, d, f, g, i, j, m, k, q, o, u, v, w, ab, aa, z, y, ac]; done
          · simp [a, b, e, d, f, g, i, j, m, k, q, o, u, v, w, ab, aa, z, y, ac]; rfl
          refine regv_skip (s1 := ?_) ?_ ?_ ?_
          rotate_left
          · simp [a, b, e, d, f, g, i, j, m, k, q, o, u, v, w, ab, aa, z, y, ac]; done
          · simp [a, b, e, d, f, g, i, j, m, k, q, o, u, v, w, ab, aa, z, y, ac]; rfl
          iterate 2
            refine regv_pure (s1 := ?_) rfl rfl ?_ ?_ ?_
            rotate_left
            · simp [a, b, e, d, f, g, i, j, m, k, q, o, u, v, w, ab, aa, z, y, ac]; rfl
            · first | (simp [a, b, e, d, f, g, i, j, m, k, q, o, u, v, w, ab, aa, z, y, ac] <;> omega) | (have hq := ac; simp at hq; simp [a, b, e, d, f, g, i, j, m, k, q, o, u, v, w, ab, aa, z, y, ac, hq]; done) | skip
          refine regv_skip (s1 := ?_) ?_ ?_ ?_
          rotate_left
          · simp [a, b, e, d, f, g, i, j, m, k, q, o, u, v, w, ab, aa, z, y, ac]; done
          · simp [a, b, e, d, f, g, i, j, m, k, q, o, u, v, w, ab, aa, z, y, ac]; rfl
          refine regv_skip (s1 := ?_) ?_ ?_ ?_
          rotate_left
          · simp [a, b, e, d, f, g, i, j, m, k, q, o, u, v, w, ab, aa, z, y, ac]; done
          · simp [a, b, e, d, f, g, i, j, m, k, q, o, u, v, w, ab, aa, z, y, ac]; rfl
          refine regv_skip (s1 := ?_) ?_ ?_ ?_
          rotate_left
          · simp [a, b, e, d, f, g, i, j, m, k, q, o, u, v, w, ab, aa, z, y, ac]; done
          · simp [a, b, e, d, f, g, i, j, m, k, q, o, u, v, w, ab, aa, z, y, ac]; rfl
          refine regv_skip (s1 := ?_) ?_ ?_ ?_
          rotate_left
          · simp [a, b, e, d, f, g, i, j, m, k, q, o, u, v, w, ab, aa, z, y, ac]; done
          · simp [a, b, e, d, f, g, i, j, m, k, q, o, u, v, w, ab, aa, z, y, ac]; rfl
          iterate 2
            refine regv_pure (s1 := ?_) rfl rfl ?_ ?_ ?_
            rotate_left
            · simp [a, b, e, d, f, g, i, j, m, k, q, o, u, v, w, ab, aa, z, y, ac]; rfl
            · first | (simp [a, b, e, d, f, g, i, j, m, k, q, o, u, v, w, ab, aa, z, y, ac] <;> omega) | (have hq := ac; simp at hq; simp [a, b, e, d, f, g, i, j, m, k, q, o, u, v, w, ab, aa, z, y, ac, hq]; done) | skip
          refine regv_skip (s1 := ?_) ?_ ?_ ?_
          rotate_left
          · simp [a, b, e, d, f, g, i, j, m, k, q, o, u, v, w, ab, aa, z, y, ac]; done
          · simp [a, b, e, d, f, g, i, j, m, k, q, o, u, v, w, ab, aa, z, y, ac]; rfl
          refine regv_skip (s1 := ?_) ?_ ?_ ?_
          rotate_left
          · simp [a, b, e, d, f, g, i, j, m, k, q, o, u, v, w, ab, aa, z, y, ac]; done
          · simp [a, b, e, d, f, g, i, j, m, k, q, o, u, v, w, ab, aa, z, y, ac]; rfl
          iterate 2
            refine regv_pure (s1 := ?_) rfl rfl ?_ ?_ ?_
            rotate_left
            · simp [a, b, e, d, f, g, i, j, m, k, q, o, u, v, w, ab, aa, z, y, ac]; rfl
            · first | (simp [a, b, e, d, f, g, i, j, m, k, q, o, u, v, w, ab, aa, z, y, ac] <;> omega) | (have hq := ac; simp at hq; simp [a, b, e, d, f, g, i, j, m, k, q, o, u, v, w, ab, aa, z, y, ac, hq]; done) | skip
          refine regv_skip (s1 := ?_) ?_ ?_ ?_
          rotate_left
          · simp [a, b, e, d, f, g, i, j, m, k, q, o, u, v, w, ab, aa, z, y, ac]; done
          · simp [a, b, e, d, f, g, i, j, m, k, q, o, u, v, w, ab, aa, z, y, ac]; rfl
          refine regv_skip (s1 := ?_) ?_ ?_ ?_
          rotate_left
          · simp [a, b, e, d, f, g, i, j, m, k, q, o, u, v, w, ab, aa, z, y, ac]; done
          · simp [a, b, e, d, f, g, i, j, m, k, q, o, u, v, w, ab, aa, z, y, ac]; rfl
          iterate 2
            refine regv_pure (s1 := ?_) rfl rfl ?_ ?_ ?_
            rotate_left
            · simp [a, b, e, d, f, g, i, j, m, k, q, o, u, v, w, ab, aa, z, y, ac]; rfl
            · first | (simp [a, b, e, d, f, g, i, j, m, k, q, o, u, v, w, ab, aa, z, y, ac] <;> omega) | (have hq := ac; simp at hq; simp [a, b, e, d, f, g, i, j, m, k, q, o, u, v, w, ab, aa, z, y, ac, hq]; done) | skip
          refine regv_skip (s1 := ?_) ?_ ?_ ?_
          rotate_left
          · simp [a, b, e, d, f, g, i, j, m, k, q, o, u, v, w, ab, aa, z, y, ac]; done
          · simp [a, b, e, d, f, g, i, j, m, k, q, o, u, v, w, ab, aa, z, y, ac]; rfl
          refine regv_skip (s1 := ?_) ?_ ?_ ?_
          rotate_left
          · simp [a, b, e, d, f, g, i, j, m, k, q, o, u, v, w, ab, aa, z, y, ac]; done
          · simp [a, b, e, d, f, g, i, j, m, k, q, o, u, v, w, ab, aa, z, y, ac]; rfl
          refine regv_skip (s1 := ?_) ?_ ?_ ?_
          rotate_left
          · simp [a, b, e, d, f, g, i, j, m, k, q, o, u, v, w, ab, aa, z, y, ac]; done
          · simp [a, b, e, d, f, g, i, j, m, k, q, o, u, v, w, ab, aa, z, y, ac]; rfl
          refine regv_skip (s1 := ?_) ?_ ?_ ?_
          rotate_left
          · simp [a, b, e, d, f, g, i, j, m, k, q, o, u, v, w, ab, aa, z, y, ac]; done
          · simp [a, b, e, d, f, g, i, j, m, k, q, o, u, v, w, ab, aa, z, y, ac]; rfl
          iterate 2
            refine regv_pure (s1 := ?_) rfl rfl ?_ ?_ ?_
            rotate_left
            · simp [a, b, e, d, f, g, i, j, m, k, q, o, u, v, w, ab, aa, z, y, ac]; rfl
            · first | (simp [a, b, e, d, f, g, i, j, m, k, q, o, u, v, w, ab, aa, z, y, ac] <;> omega) | (have hq := ac; simp at hq; simp [a, b, e, d, f, g, i, j, m, k, q, o, u, v, w, ab, aa, z, y, ac, hq]; done) | skip
          refine regv_skip (s1 := ?_) ?_ ?_ ?_
          rotate_left
          · simp [a, b, e, d, f, g, i, j, m, k, q, o, u, v, w, ab, aa, z, y, ac]; done
          · simp [a, b, e, d, f, g, i, j, m, k, q, o, u, v, w, ab, aa, z, y, ac]; rfl
          refine regv_skip (s1 := ?_) ?_ ?_ ?_
          rotate_left
          · simp [a, b, e, d, f, g, i, j, m, k, q, o, u, v, w, ab, aa, z, y, ac]; done
          · simp [a, b, e, d, f, g, i, j, m, k, q, o, u, v, w, ab, aa, z, y, ac]; rfl
          refine regv_skip (s1 := ?_) ?_ ?_ ?_
          rotate_left
          · simp [a, b, e, d, f, g, i, j, m, k, q, o, u, v, w, ab, aa, z, y, ac]; done
          · simp [a, b, e, d, f, g, i, j, m, k, q, o, u, v, w, ab, aa, z, y, ac]; rfl
          refine regv_skip (s1 := ?_) ?_ ?_ ?_
          rotate_left
          · simp [a, b, e, d, f, g, i, j, m, k, q, o, u, v, w, ab, aa, z, y, ac]; done
          · simp [a, b, e, d, f, g, i, j, m, k, q, o, u, v, w, ab, aa, z, y, ac]; rfl
          refine regv_skip (s1 := ?_) ?_ ?_ ?_
          rotate_left
          · simp [a, b, e, d, f, g, i, j, m, k, q, o, u, v, w, ab, aa, z, y, ac]; done
          · simp [a, b, e, d, f, g, i, j, m, k, q, o, u, v, w, ab, aa, z, y, ac]; rfl
          iterate 2
            refine regv_pure (s1 := ?_) rfl rfl ?_ ?_ ?_
            rotate_left
            · simp [a, b, e, d, f, g, i, j, m, k, q, o, u, v, w, ab, aa, z, y, ac]; rfl
            · first | (simp [a, b, e, d, f, g, i, j, m, k, q, o, u, v, w, ab, aa, z, y, ac] <;> omega) | (have hq := ac; simp at hq; simp [a, b, e, d, f, g, i, j, m, k, q, o, u, v, w, ab, aa, z, y, ac, hq]; done) | skip
          refine regv_nil ?_
          cases h
          refine Wp.ret (endQ_ret0 rfl ?_)
          repeat' first | exact All2.nil | refine All2.cons ?_ ?_ | refine AvLe.tups ?_ | refine AvLe.aggs ?_
          all_goals first
            | (exact AvLe.refl _ rfl)
            | (exact AvLe.nil _)
            | (exact AvLe.znil _)
            | (exact AvLe.ghost _ rfl)
            | (exact AvLe.zghost _ rfl)
            | (exact AvLe.sl' rfl (by simp [a, b, e, d, f, g, i, j, m, k, q, o, u, v, w, ab, aa, z, y, ac]; done) (by simp [a, b, e, d, f, g, i, j, m, k, q, o, u, v, w, ab, aa, z, y, ac]; done))
            | (exact AvLe.frz' rfl rfl rfl (by simp [a, b, e, d, f, g, i, j, m, k, q, o, u, v, w, ab, aa, z, y, ac]; done) (by simp [a, b, e, d, f, g, i, j, m, k, q, o, u, v, w, ab, aa, z, y, ac]; done) (by simp [a, b, e, d, f, g, i, j, m, k, q, o, u, v, w, ab, aa, z, y, ac]; done))
            | (exact AvLe.list' (by simp [a, b, e, d, f, g, i, j, m, k, q, o, u, v, w, ab, aa, z, y, ac]; done) (by simp [a, b, e, d, f, g, i, j, m, k, q, o, u, v, w, ab, aa, z, y, ac]; done))
            | (exact AvLe.eq (by simp [a, b, e, d, f, g, i, j, m, k, q, o, u, v, w, ab, aa, z, y, ac]; done) rfl)
        · rw [ac, if_pos rfl] at h
          refine regv_pure (s1 := ?_) rfl ?_ ?_ ?_ ?_
          rotate_left
          · simp [a, b, e, d, f, g, i, j, m, k, q, o, u, v, w, ab, aa, z, y, ac]; done
          · simp [a, b, e, d, f, g, i, j, m, k, q, o, u, v, w, ab, aa, z, y, ac]; rfl
          · first | (simp [a, b, e, d, f, g, i, j, m, k, q, o, u, v, w, ab, aa, z, y, ac] <;> omega) | (have hq := ac; simp at hq; simp [a, b, e, d, f, g, i, j, m, k, q, o, u, v, w, ab, aa, z, y, ac, hq]; done) | skip
          refine regv_pure (s1 := ?_) rfl ?_ ?_ ?_ ?_
          rotate_left
          · simp [a, b, e, d, f, g, i, j, m, k, q, o, u, v, w, ab, aa, z, y, ac]; done
          · simp [a, b, e, d, f, g, i, j, m, k, q, o, u, v, w, ab, aa, z, y, ac]; rfl
          · first | (simp [a, b, e, d, f, g, i, j, m, k, q, o, u, v, w, ab, aa, z, y, ac] <;> omega) | (have hq := ac; simp at hq; simp [a, b, e, d, f, g, i, j, m, k, q, o, u, v, w, ab, aa, z, y, ac, hq]; done) | skip
          refine regv_pure (s1 := ?_) rfl ?_ ?_ ?_ ?_
          rotate_left
          · simp [a, b, e, d, f, g, i, j, m, k, q, o, u, v, w, ab, aa, z, y, ac]; done
          · simp [a, b, e, d, f, g, i, j, m, k, q, o, u, v, w, ab, aa, z, y, ac]; rfl
          · first | (simp [a, b, e, d, f, g, i, j, m, k, q, o, u, v, w, ab, aa, z, y, ac] <;> omega) | (have hq := ac; simp at hq; simp [a, b, e, d, f, g, i, j, m, k, q, o, u, v, w, ab, aa, z, y, ac, hq]; done) | skip
          refine regv_pure (s1 := ?_) rfl ?_ ?_ ?_ ?_
          rotate_left
          · simp [a, b, e, d, f, g, i, j, m, k, q, o, u, v, w, ab, aa, z, y, ac]; done
          · simp [a, b, e, d, f, g, i, j, m, k, q, o, u, v, w, ab, aa, z, y, ac]; rfl
          · first | (simp [a, b, e, d, f, g, i, j, m, k, q, o, u, v, w, ab, aa, z, y, ac] <;> omega) | (have hq := ac; simp at hq; simp [a, b, e, d, f, g, i, j, m, k, q, o, u, v, w, ab, aa, z, y, ac, hq]; done) | skip
          iterate 2
            refine regv_pure (s1 := ?_) rfl rfl ?_ ?_ ?_
            rotate_left
            · simp [a, b, e, d, f, g, i, j, m, k, q, o, u, v, w, ab, aa, z, y, ac]; rfl
            · first | (simp [a, b, e, d, f, g, i, j, m, k, q, o, u, v, w, ab, aa, z, y, ac] <;> omega) | (have hq := ac; simp at hq; simp [a, b, e, d, f, g, i, j, m, k, q, o, u, v, w, ab, aa, z, y, ac, hq]; done) | skip
          cases ad : ((bd.E.length : Int) == 1)
          · rw [ad, if_neg (by simp)] at h
            refine regv_skip (s1 := ?_) ?_ ?_ ?_
            rotate_left
            · simp [a, b, e, d, f, g, i, j, m, k, q, o, u, v, w, ab, aa, z, y, ac, ad]; done
            · simp [a, b, e, d, f, g, i, j, m, k, q, o, u, v, w, ab, aa, z, y, ac, ad]; rfl
            refine regv_skip (s1 := ?_) ?_ ?_ ?_
            rotate_left
            · simp [a, b, e, d, f, g, i, j, m, k, q, o, u, v, w, ab, aa, z, y, ac, ad]; done
            · simp [a, b, e, d, f, g, i, j, m, k, q, o, u, v, w, ab, aa, z, y, ac, ad]; rfl
            refine regv_skip (s1 := ?_) ?_ ?_ ?_
            rotate_left
            · simp [a, b, e, d, f, g, i, j, m, k, q, o, u, v, w, ab, aa, z, y, ac, ad]; done
            · simp [a, b, e, d, f, g, i, j, m, k, q, o, u, v, w, ab, aa, z, y, ac, ad]; rfl
            refine regv_skip (s1 := ?_) ?_ ?_ ?_
            rotate_left
            · simp [a, b, e, d, f, g, i, j, m, k, q, o, u, v, w, ab, aa, z, y, ac, ad]; done
            · simp [a, b, e, d, f, g, i, j, m, k, q, o, u, v, w, ab, aa, z, y, ac, ad]; rfl
            iterate 2
              refine regv_pure (s1 := ?_) rfl rfl ?_ ?_ ?_
              rotate_left
              · simp [a, b, e, d, f, g, i, j, m, k, q, o, u, v, w, ab, aa, z, y, ac, ad]; rfl
              · first | (simp [a, b, e, d, f, g, i, j, m, k, q, o, u, v, w, ab, aa, z, y, ac, ad] <;> omega) | (have hq := ad; simp at hq; simp [a, b, e, d, f, g, i, j, m, k, q, o, u, v, w, ab, aa, z, y, ac, ad, hq]; done) | skip
            refine regv_skip (s1 := ?_) ?_ ?_ ?_
            rotate_left
            · simp [a, b, e, d, f, g, i, j, m, k, q, o, u, v, w, ab, aa, z, y, ac, ad]; done
            · simp [a, b, e, d, f, g, i, j, m, k, q, o, u, v, w, ab, aa, z, y, ac, ad]; rfl
            refine regv_skip (s1 := ?_) ?_ ?_ ?_
            rotate_left
            · simp [a, b, e, d, f, g, i, j, m, k, q, o, u, v, w, ab, aa, z, y, ac, ad]; done
            · simp [a, b, e, d, f, g, i, j, m, k, q, o, u, v, w, ab, aa, z, y, ac, ad]; rfl
            iterate 2
              refine regv_pure (s1 := ?_) rfl rfl ?_ ?_ ?_
              rotate_left
              · simp [a, b, e, d, f, g, i, j, m, k, q, o, u, v, w, ab, aa, z, y, ac, ad]; rfl
              · first | (simp [a, b, e, d, f, g, i, j, m, k, q, o, u, v, w, ab, aa, z, y, ac, ad] <;> omega) | (have hq := ad; simp at hq; simp [a, b, e, d, f, g, i, j, m, k, q, o, u, v, w, ab, aa, z, y, ac, ad, hq]; done) | skip
            refine regv_skip (s1 := ?_) ?_ ?_ ?_
            rotate_left
            · simp [a, b, e, d, f, g, i, j, m, k, q, o, u, v, w, ab, aa, z, y, ac, ad]; done
            · simp [a, b, e, d, f, g, i, j, m, k, q, o, u, v, w, ab, aa, z, y, ac, ad]; rfl
            refine regv_skip (s1 := ?_) ?_ ?_ ?_
            rotate_left
            · simp [a, b, e, d, f, g, i, j, m, k, q, o, u, v, w, ab, aa, z, y, ac, ad]; done
            · simp [a, b, e, d, f, g, i, j, m, k, q, o, u, v, w, ab, aa, z, y, ac, ad]; rfl
            iterate 2
              refine regv_pure (s1 := ?_) rfl rfl ?_ ?_ ?_
              rotate_left
              · simp [a, b, e, d, f, g, i, j, m, k, q, o, u, v, w, ab, aa, z, y, ac, ad]; rfl
              · first | (simp [a, b, e, d, f, g, i, j, m, k, q, o, u, v, w, ab, aa, z, y, ac, ad] <;> omega) | (have hq := ad; simp at hq; simp [a, b, e, d, f, g, i, j, m, k, q, o, u, v, w, ab, aa, z, y, ac, ad, hq]; done) | skip
            refine regv_skip (s1 := ?_) ?_ ?_ ?_
            rotate_left
            · simp [a, b, e, d, f, g, i, j, m, k, q, o, u, v, w, ab, aa, z, y, ac, ad]; done
            · simp [a, b, e, d, f, g, i, j, m, k, q, o, u, v, w, ab, aa, z, y, ac, ad]; rfl
            refine regv_skip (s1 := ?_) ?_ ?_ ?_
            rotate_left
            · simp [a, b, e, d, f, g, i, j, m, k, q, o, u, v, w, ab, aa, z, y, ac, ad]; done
            · simp [a, b, e, d, f, g, i, j, m, k, q, o, u, v, w, ab, aa, z, y, ac, ad]; rfl
            refine regv_skip (s1 := ?_) ?_ ?_ ?_
            rotate_left
            · simp [a, b, e, d, f, g, i, j, m, k, q, o, u, v, w, ab, aa, z, y, ac, ad]; done
            · simp [a, b, e, d, f, g, i, j, m, k, q, o, u, v, w, ab, aa, z, y, ac, ad]; rfl
            refine regv_skip (s1 := ?_) ?_ ?_ ?_
            rotate_left
            · simp [a, b, e, d, f, g, i, j, m, k, q, o, u, v, w, ab, aa, z, y, ac, ad]; done
            · simp [a, b, e, d, f, g, i, j, m, k, q, o, u, v, w, ab, aa, z, y, ac, ad]; rfl
            iterate 2
              refine regv_pure (s1 := ?_) rfl rfl ?_ ?_ ?_
              rotate_left
              · simp [a, b, e, d, f, g, i, j, m, k, q, o, u, v, w, ab, aa, z, y, ac, ad]; rfl
              · first | (simp [a, b, e, d, f, g, i, j, m, k, q, o, u, v, w, ab, aa, z, y, ac, ad] <;> omega) | (have hq := ad; simp at hq; simp [a, b, e, d, f, g, i, j, m, k, q, o, u, v, w, ab, aa, z, y, ac, ad, hq]; done) | skip
            refine regv_skip (s1 := ?_) ?_ ?_ ?_
            rotate_left
            · simp [a, b, e, d, f, g, i, j, m, k, q, o, u, v, w, ab, aa, z, y, ac, ad]; done
            · simp [a, b, e, d, f, g, i, j, m, k, q, o, u, v, w, ab, aa, z, y, ac, ad]; rfl
            refine regv_skip (s1 := ?_) ?_ ?_ ?_
            rotate_left
            · simp [a, b, e, d, f, g, i, j, m, k, q, o, u, v, w, ab, aa, z, y, ac, ad]; done
            · simp [a, b, e, d, f, g, i, j, m, k, q, o, u, v, w, ab, aa, z, y, ac, ad]; rfl
            refine regv_skip (s1 := ?_) ?_ ?_ ?_
            rotate_left
            · simp [a, b, e, d, f, g, i, j, m, k, q, o, u, v, w, ab, aa, z, y, ac, ad]; done
            · simp [a, b, e, d, f, g, i, j, m, k, q, o, u, v, w, ab, aa, z, y, ac, ad]; rfl
            refine regv_skip (s1 := ?_) ?_ ?_ ?_
            rotate_left
            · simp [a, b, e, d, f, g, i, j, m, k, q, o, u, v, w, ab, aa, z, y, ac, ad]; done
            · simp [a, b, e, d, f, g, i, j, m, k, q, o, u, v, w, ab, aa, z, y, ac, ad]; rfl
            refine regv_skip (s1 := ?_) ?_ ?_ ?_
            rotate_left
            · simp [a, b, e, d, f, g, i, j, m, k, q, o, u, v, w, ab, aa, z, y, ac, ad]; done
            · simp [a, b, e, d, f, g, i, j, m, k, q, o, u, v, w, ab, aa, z, y, ac, ad]; rfl
            iterate 2
              refine regv_pure (s1 := ?_) rfl rfl ?_ ?_ ?_
              rotate_left
              · simp [a, b, e, d, f, g, i, j, m, k, q, o, u, v, w, ab, aa, z, y, ac, ad]; rfl
              · first | (simp [a, b, e, d, f, g, i, j, m, k, q, o, u, v, w, ab, aa, z, y, ac, ad] <;> omega) | (have hq := ad; simp at hq; simp [a, b, e, d, f, g, i, j, m, k, q, o, u, v, w, ab, aa, z, y, ac, ad, hq]; done) | skip
            refine regv_nil ?_
            cases h
            refine Wp.ret (endQ_ret0 rfl ?_)
            repeat' first | exact All2.nil | refine All2.cons ?_ ?_ | refine AvLe.tups ?_ | refine AvLe.aggs ?_
            all_goals first
              | (exact AvLe.refl _ rfl)
              | (exact AvLe.nil _)
              | (exact AvLe.znil _)
              | (exact AvLe.ghost _ rfl)
              | (exact AvLe.zghost _ rfl)
              | (exact AvLe.sl' rfl (by simp [a, b, e, d, f, g, i, j, m, k, q, o, u, v, w, ab, aa, z, y, ac, ad]; done) (by simp [a, b, e, d, f, g, i, j, m, k, q, o, u, v, w, ab, aa, z, y, ac, ad]; done))
              | (exact AvLe.frz' rfl rfl rfl (by simp [a, b, e, d, f, g, i, j, m, k, q, o, u, v, w, ab, aa, z, y, ac, ad]; done) (by simp [a, b, e, d, f, g, i, j, m, k, q, o, u, v, w, ab, aa, z, y, ac, ad]; done) (by simp [a, b, e, d, f, g, i, j, m, k, q, o, u, v, w, ab, aa, z, y, ac, ad]; done))
              | (exact AvLe.list' (by simp [a, b, e, d, f, g, i, j, m, k, q, o, u, v, w, ab, aa, z, y, ac, ad]; done) (by simp [a, b, e, d, f, g, i, j, m, k, q, o, u, v, w, ab, aa, z, y, ac, ad]; done))
              | (exact AvLe.eq (by simp [a, b, e, d, f, g, i, j, m, k, q, o, u, v, w, ab, aa, z, y, ac, ad]; done) rfl)
          · rw [ad, if_pos rfl] at h
            refine regv_pure (s1 := ?_) rfl ?_ ?_ ?_ ?_
            rotate_left
            · simp [a, b, e, d, f, g, i, j, m, k, q, o, u, v, w, ab, aa, z, y, ac, ad]; done
            · simp [a, b, e, d, f, g, i, j, m, k, q, o, u, v, w, ab, aa, z, y, ac, ad]; rfl
            · first | (simp [a, b, e, d, f, g, i, j, m, k, q, o, u, v, w, ab, aa, z, y, ac, ad] <;> omega) | (have hq := ad; simp at hq; simp [a, b, e, d, f, g, i, j, m, k, q, o, u, v, w, ab, aa, z, y, ac, ad, hq]; done) | skip
            refine regv_pure (s1 := ?_) rfl ?_ ?_ ?_ ?_
            rotate_left
            · simp [a, b, e, d, f, g, i, j, m, k, q, o, u, v, w, ab, aa, z, y, ac, ad]; done
            · simp [a, b, e, d, f, g, i, j, m, k, q, o, u, v, w, ab, aa, z, y, ac, ad]; rfl
            · first | (simp [a, b, e, d, f, g, i, j, m, k, q, o, u, v, w, ab, aa, z, y, ac, ad] <;> omega) | (have hq := ad; simp at hq; simp [a, b, e, d, f, g, i, j, m, k, q, o, u, v, w, ab, aa, z, y, ac, ad, hq]; done) | skip
            obtain ⟨bv, bi, h⟩ := obind h
            obtain ⟨ai, ag, af⟩ := atI_some bi
            try simp [a, b, e, d, f, g, i, j, m, k, q, o, u, v, w, ab, aa, z, y, ac, ad] at ag
            try simp only [Int.toNat_natCast, Int.reduceToNat, Nat.zero_add, Nat.add_zero] at af
            have ae := getElem_of af
            refine regv_pure (s1 := ?_) rfl ?_ ?_ ?_ ?_
            rotate_left
            · simp [a, b, e, d, f, g, i, j, m, k, q, o, u, v, w, ab, aa, z, y, ac, ad, ai, ag, af, ae]; done
            · simp [a, b, e, d, f, g, i, j, m, k, q, o, u, v, w, ab, aa, z, y, ac, ad, ai, ag, af, ae]; rfl
            · first | (simp [a, b, e, d, f, g, i, j, m, k, q, o, u, v, w, ab, aa, z, y, ac, ad, ai, ag, af, ae] <;> omega) | (have hq := ae; simp at hq; simp [a, b, e, d, f, g, i, j, m, k, q, o, u, v, w, ab, aa, z, y, ac, ad, ai, ag, af, ae, hq]; done) | skip
            refine regv_pure (s1 := ?_) rfl ?_ ?_ ?_ ?_
            rotate_left
            · simp [a, b, e, d, f, g, i, j, m, k, q, o, u, v, w, ab, aa, z, y, ac, ad, ai, ag, af, ae]; done
            · simp [a, b, e, d, f, g, i, j, m, k, q, o, u, v, w, ab, aa, z, y, ac, ad, ai, ag, af, ae]; rfl
            · first | (simp [a, b, e, d, f, g, i, j, m, k, q, o, u, v, w, ab, aa, z, y, ac, ad, ai, ag, af, ae] <;> omega) | (have hq := ae; simp at hq; simp [a, b, e, d, f, g, i, j, m, k, q, o, u, v, w, ab, aa, z, y, ac, ad, ai, ag, af, ae, hq]; done) | skip
            iterate 2
              refine regv_pure (s1 := ?_) rfl rfl ?_ ?_ ?_
              rotate_left
              · simp [a, b, e, d, f, g, i, j, m, k, q, o, u, v, w, ab, aa, z, y, ac, ad, ai, ag, af, ae]; rfl
              · first | (simp [a, b, e, d, f, g, i, j, m, k, q, o, u, v, w, ab, aa, z, y, ac, ad, ai, ag, af, ae] <;> omega) | (have hq := ae; simp at hq; simp [a, b, e, d, f, g, i, j, m, k, q, o, u, v, w, ab, aa, z, y, ac, ad, ai, ag, af, ae, hq]; done) | skip
            cases aj : bv
            · rw [aj, if_neg (by simp)] at h
              refine regv_skip (s1 := ?_) ?_ ?_ ?_
              rotate_left
              · simp [a, b, e, d, f, g, i, j, m, k, q, o, u, v, w, ab, aa, z, y, ac, ad, ai, ag, af, ae, aj]; done
              · simp [a, b, e, d, f, g, i, j, m, k, q, o, u, v, w, ab, aa, z, y, ac, ad, ai, ag, af, ae, aj]; rfl
              refine regv_skip (s1 := ?_) ?_ ?_ ?_
              rotate_left
              · simp [a, b, e, d, f, g, i, j, m, k, q, o, u, v, w, ab, aa, z, y, ac, ad, ai, ag, af, ae, aj]; done
              · simp [a, b, e, d, f, g, i, j, m, k, q, o, u, v, w, ab, aa, z, y, ac, ad, ai, ag, af, ae, aj]; rfl
              iterate 2
                refine regv_pure (s1 := ?_) rfl rfl ?_ ?_ ?_
                rotate_left
                · simp [a, b, e, d, f, g, i, j, m, k, q, o, u, v, w, ab, aa, z, y, ac, ad, ai, ag, af, ae, aj]; rfl
                · first | (simp [a, b, e, d, f, g, i, j, m, k, q, o, u, v, w, ab, aa, z, y, ac, ad, ai, ag, af, ae, aj] <;> omega) | (have hq := aj; simp at hq; simp [a, b, e, d, f, g, i, j, m, k, q, o, u, v, w, ab, aa, z, y, ac, ad, ai, ag, af, ae, aj, hq]; done) | skip
              refine regv_skip (s1 := ?_) ?_ ?_ ?_
              rotate_left
              · simp [a, b, e, d, f, g, i, j, m, k, q, o, u, v, w, ab, aa, z, y, ac, ad, ai, ag, af, ae, aj]; done
              · simp [a, b, e, d, f, g, i, j, m, k, q, o, u, v, w, ab, aa, z, y, ac, ad, ai, ag, af, ae, aj]; rfl
              refine regv_skip (s1 := ?_) ?_ ?_ ?_
              rotate_left
              · simp [a, b, e, d, f, g, i, j, m, k, q, o, u, v, w, ab, aa, z, y, ac, ad, ai, ag, af, ae, aj]; done
              · simp [a, b, e, d, f, g, i, j, m, k, q, o, u, v, w, ab, aa, z, y, ac, ad, ai, ag, af, ae, aj]; rfl
              iterate 2
                refine regv_pure (s1 := ?_) rfl rfl ?_ ?_ ?_
                rotate_left
                · simp [a, b, e, d, f, g, i, j, m, k, q, o, u, v, w, ab, aa, z, y, ac, ad, ai, ag, af, ae, aj]; rfl
                · first | (simp [a, b, e, d, f, g, i, j, m, k, q, o, u, v, w, ab, aa, z, y, ac, ad, ai, ag, af, ae, aj] <;> omega) | (have hq := aj; simp at hq; simp [a, b, e, d, f, g, i, j, m, k, q, o, u, v, w, ab, aa, z, y, ac, ad, ai, ag, af, ae, aj, hq]; done) | skip
              refine regv_skip (s1 := ?_) ?_ ?_ ?_
              rotate_left
              · simp [a, b, e, d, f, g, i, j, m, k, q, o, u, v, w, ab, aa, z, y, ac, ad, ai, ag, af, ae, aj]; done
              · simp [a, b, e, d, f, g, i, j, m, k, q, o, u, v, w, ab, aa, z, y, ac, ad, ai, ag, af, ae, aj]; rfl
              refine regv_skip (s1 := ?_) ?_ ?_ ?_
              rotate_left
              · simp [a, b, e, d, f, g, i, j, m, k, q, o, u, v, w, ab, aa, z, y, ac, ad, ai, ag, af, ae, aj]; done
              · simp [a, b, e, d, f, g, i, j, m, k, q, o, u, v, w, ab, aa, z, y, ac, ad, ai, ag, af, ae, aj]; rfl
              refine regv_skip (s1 := ?_) ?_ ?_ ?_
              rotate_left
              · simp [a, b, e, d, f, g, i, j, m, k, q, o, u, v, w, ab, aa, z, y, ac, ad, ai, ag, af, ae, aj]; done
              · simp [a, b, e, d, f, g, i, j, m, k, q, o, u, v, w, ab, aa, z, y, ac, ad, ai, ag, af, ae, aj]; rfl
              refine regv_skip (s1 := ?_) ?_ ?_ ?_
              rotate_left
              · simp [a, b, e, d, f, g, i, j, m, k, q, o, u, v, w, ab, aa, z, y, ac, ad, ai, ag, af, ae, aj]; done
              · simp [a, b, e, d, f, g, i, j, m, k, q, o, u, v, w, ab, aa, z, y, ac, ad, ai, ag, af, ae, aj]; rfl
              iterate 2
                refine regv_pure (s1 := ?_) rfl rfl ?_ ?_ ?_
                rotate_left
                · simp [a, b, e, d, f, g, i, j, m, k, q, o, u, v, w, ab, aa, z, y, ac, ad, ai, ag, af, ae, aj]; rfl
                · first | (simp [a, b, e, d, f, g, i, j, m, k, q, o, u, v, w, ab, aa, z, y, ac, ad, ai, ag, af, ae, aj] <;> omega) | (have hq := aj; simp at hq; simp [a, b, e, d, f, g, i, j, m, k, q, o, u, v, w, ab, aa, z, y, ac, ad, ai, ag, af, ae, aj, hq]; done) | skip
              refine regv_skip (s1 := ?_) ?_ ?_ ?_
              rotate_left
              · simp [a, b, e, d, f, g, i, j, m, k, q, o, u, v, w, ab, aa, z, y, ac, ad, ai, ag, af, ae, aj]; done
              · simp [a, b, e, d, f, g, i, j, m, k, q, o, u, v, w, ab, aa, z, y, ac, ad, ai, ag, af, ae, aj]; rfl
              refine regv_skip (s1 := ?_) ?_ ?_ ?_
              rotate_left
              · simp [a, b, e, d, f, g, i, j, m, k, q, o, u, v, w, ab, aa, z, y, ac, ad, ai, ag, af, ae, aj]; done
              · simp [a, b, e, d, f, g, i, j, m, k, q, o, u, v, w, ab, aa, z, y, ac, ad, ai, ag, af, ae, aj]; rfl
              refine regv_skip (s1 := ?_) ?_ ?_ ?_
              rotate_left
              · simp [a, b, e, d, f, g, i, j, m, k, q, o, u, v, w, ab, aa, z, y, ac, ad, ai, ag, af, ae, aj]; done
              · simp [a, b, e, d, f, g, i, j, m, k, q, o, u, v, w, ab, aa, z, y, ac, ad, ai, ag, af, ae, aj]; rfl
              refine regv_skip (s1 := ?_) ?_ ?_ ?_
              rotate_left
              · simp [a, b, e, d, f, g, i, j, m, k, q, o, u, v, w, ab, aa, z, y, ac, ad, ai, ag, af, ae, aj]; done
              · simp [a, b, e, d, f, g, i, j, m, k, q, o, u, v, w, ab, aa, z, y, ac, ad, ai, ag, af, ae, aj]; rfl
              refine regv_skip (s1 := ?_) ?_ ?_ ?_
              rotate_left
              · simp [a, b, e, d, f, g, i, j, m, k, q, o, u, v, w, ab, aa, z, y, ac, ad, ai, ag, af, ae, aj]; done
              · simp [a, b, e, d, f, g, i, j, m, k, q, o, u, v, w, ab, aa, z, y, ac, ad, ai, ag, af, ae, aj]; rfl
              iterate 2
                refine regv_pure (s1 := ?_) rfl rfl ?_ ?_ ?_
                rotate_left
                · simp [a, b, e, d, f, g, i, j, m, k, q, o, u, v, w, ab, aa, z, y, ac, ad, ai, ag, af, ae, aj]; rfl
                · first | (simp [a, b, e, d, f, g, i, j, m, k, q, o, u, v, w, ab, aa, z, y, ac, ad, ai, ag, af, ae, aj] <;> omega) | (have hq := aj; simp at hq; simp [a, b, e, d, f, g, i, j, m, k, q, o, u, v, w, ab, aa, z, y, ac, ad, ai, ag, af, ae, aj, hq]; done) | skip
              refine regv_nil ?_
              cases h
              refine Wp.ret (endQ_ret0 rfl ?_)
              repeat' first | exact All2.nil | refine All2.cons ?_ ?_ | refine AvLe.tups ?_ | refine AvLe.aggs ?_
              all_goals first
                | (exact AvLe.refl _ rfl)
                | (exact AvLe.nil _)
                | (exact AvLe.znil _)
                | (exact AvLe.ghost _ rfl)
                | (exact AvLe.zghost _ rfl)
                | (exact AvLe.sl' rfl (by simp [a, b, e, d, f, g, i, j, m, k, q, o, u, v, w, ab, aa, z, y, ac, ad, ai, ag, af, ae, aj]; done) (by simp [a, b, e, d, f, g, i, j, m, k, q, o, u, v, w, ab, aa, z, y, ac, ad, ai, ag, af, ae, aj]; done))
                | (exact AvLe.frz' rfl rfl rfl (by simp [a, b, e, d, f, g, i, j, m, k, q, o, u, v, w, ab, aa, z, y, ac, ad, ai, ag, af, ae, aj]; done) (by simp [a, b, e, d, f, g, i, j, m, k, q, o, u, v, w, ab, aa, z, y, ac, ad, ai, ag, af, ae, aj]; done) (by simp [a, b, e, d, f, g, i, j, m, k, q, o, u, v, w, ab, aa, z, y, ac, ad, ai, ag, af, ae, aj]; done))
                | (exact AvLe.list' (by simp [a, b, e, d, f, g, i, j, m, k, q, o, u, v, w, ab, aa, z, y, ac, ad, ai, ag, af, ae, aj]; done) (by simp [a, b, e, d, f, g, i, j, m, k, q, o, u, v, w, ab, aa, z, y, ac, ad, ai, ag, af, ae, aj]; done))
                | (exact AvLe.eq (by simp [a, b, e, d, f, g, i, j, m, k, q, o, u, v, w, ab, aa, z, y, ac, ad, ai, ag, af, ae, aj]; done) rfl)
            · rw [aj, if_pos rfl] at h
              refine regv_pure (s1 := ?_) rfl ?_ ?_ ?_ ?_
              rotate_left
              · simp [a, b, e, d, f, g, i, j, m, k, q, o, u, v, w, ab, aa, z, y, ac, ad, ai, ag, af, ae, aj]; done
              · simp [a, b, e, d, f, g, i, j, m, k, q, o, u, v, w, ab, aa, z, y, ac, ad, ai, ag, af, ae, aj]; rfl
              · first | (simp [a, b, e, d, f, g, i, j, m, k, q, o, u, v, w, ab, aa, z, y, ac, ad, ai, ag, af, ae, aj] <;> omega) | (have hq := aj; simp at hq; simp [a, b, e, d, f, g, i, j, m, k, q, o, u, v, w, ab, aa, z, y, ac, ad, ai, ag, af, ae, aj, hq]; done) | skip
              refine regv_pure (s1 := ?_) rfl ?_ ?_ ?_ ?_
              rotate_left
              · simp [a, b, e, d, f, g, i, j, m, k, q, o, u, v, w, ab, aa, z, y, ac, ad, ai, ag, af, ae, aj]; done
              · simp [a, b, e, d, f, g, i, j, m, k, q, o, u, v, w, ab, aa, z, y, ac, ad, ai, ag, af, ae, aj]; rfl
              · first | (simp [a, b, e, d, f, g, i, j, m, k, q, o, u, v, w, ab, aa, z, y, ac, ad, ai, ag, af, ae, aj] <;> omega) | (have hq := aj; simp at hq; simp [a, b, e, d, f, g, i, j, m, k, q, o, u, v, w, ab, aa, z, y, ac, ad, ai, ag, af, ae, aj, hq]; done) | skip
              iterate 2
                refine regv_pure (s1 := ?_) rfl rfl ?_ ?_ ?_
                rotate_left
                · simp [a, b, e, d, f, g, i, j, m, k, q, o, u, v, w, ab, aa, z, y, ac, ad, ai, ag, af, ae, aj]; rfl
                · first | (simp [a, b, e, d, f, g, i, j, m, k, q, o, u, v, w, ab, aa, z, y, ac, ad, ai, ag, af, ae, aj] <;> omega) | (have hq := aj; simp at hq; simp [a, b, e, d, f, g, i, j, m, k, q, o, u, v, w, ab, aa, z, y, ac, ad, ai, ag, af, ae, aj, hq]; done) | skip
              cases ak : (bq == 0)
              · rw [ak, if_neg (by simp)] at h
                refine regv_skip (s1 := ?_) ?_ ?_ ?_
                rotate_left
                · simp [a, b, e, d, f, g, i, j, m, k, q, o, u, v, w, ab, aa, z, y, ac, ad, ai, ag, af, ae, aj, ak]; done
                · simp [a, b, e, d, f, g, i, j, m, k, q, o, u, v, w, ab, aa, z, y, ac, ad, ai, ag, af, ae, aj, ak]; rfl
                refine regv_skip (s1 := ?_) ?_ ?_ ?_
                rotate_left
                · simp [a, b, e, d, f, g, i, j, m, k, q, o, u, v, w, ab, aa, z, y, ac, ad, ai, ag, af, ae, aj, ak]; done
                · simp [a, b, e, d, f, g, i, j, m, k, q, o, u, v, w, ab, aa, z, y, ac, ad, ai, ag, af, ae, aj, ak]; rfl
                iterate 2
                  refine regv_pure (s1 := ?_) rfl rfl ?_ ?_ ?_
                  rotate_left
                  · simp [a, b, e, d, f, g, i, j, m, k, q, o, u, v, w, ab, aa, z, y, ac, ad, ai, ag, af, ae, aj, ak]; rfl
                  · first | (simp [a, b, e, d, f, g, i, j, m, k, q, o, u, v, w, ab, aa, z, y, ac, ad, ai, ag, af, ae, aj, ak] <;> omega) | (have hq := ak; simp at hq; simp [a, b, e, d, f, g, i, j, m, k, q, o, u, v, w, ab, aa, z, y, ac, ad, ai, ag, af, ae, aj, ak, hq]; done) | skip
                refine regv_skip (s1 := ?_) ?_ ?_ ?_
                rotate_left
                · simp [a, b, e, d, f, g, i, j, m, k, q, o, u, v, w, ab, aa, z, y, ac, ad, ai, ag, af, ae, aj, ak]; done
                · simp [a, b, e, d, f, g, i, j, m, k, q, o, u, v, w, ab, aa, z, y, ac, ad, ai, ag, af, ae, aj, ak]; rfl
                refine regv_skip (s1 := ?_) ?_ ?_ ?_
                rotate_left
                · simp [a, b, e, d, f, g, i, j, m, k, q, o, u, v, w, ab, aa, z, y, ac, ad, ai, ag, af, ae, aj, ak]; done
                · simp [a, b, e, d, f, g, i, j, m, k, q, o, u, v, w, ab, aa, z, y, ac, ad, ai, ag, af, ae, aj, ak]; rfl
                refine regv_skip (s1 := ?_) ?_ ?_ ?_
                rotate_left
                · simp [a, b, e, d, f, g, i, j, m, k, q, o, u, v, w, ab, aa, z, y, ac, ad, ai, ag, af, ae, aj, ak]; done
                · simp [a, b, e, d, f, g, i, j, m, k, q, o, u, v, w, ab, aa, z, y, ac, ad, ai, ag, af, ae, aj, ak]; rfl
                refine regv_skip (s1 := ?_) ?_ ?_ ?_
                rotate_left
                · simp [a, b, e, d, f, g, i, j, m, k, q, o, u, v, w, ab, aa, z, y, ac, ad, ai, ag, af, ae, aj, ak]; done
                · simp [a, b, e, d, f, g, i, j, m, k, q, o, u, v, w, ab, aa, z, y, ac, ad, ai, ag, af, ae, aj, ak]; rfl
                iterate 2
                  refine regv_pure (s1 := ?_) rfl rfl ?_ ?_ ?_
                  rotate_left
                  · simp [a, b, e, d, f, g, i, j, m, k, q, o, u, v, w, ab, aa, z, y, ac, ad, ai, ag, af, ae, aj, ak]; rfl
                  · first | (simp [a, b, e, d, f, g, i, j, m, k, q, o, u, v, w, ab, aa, z, y, ac, ad, ai, ag, af, ae, aj, ak] <;> omega) | (have hq := ak; simp at hq; simp [a, b, e, d, f, g, i, j, m, k, q, o, u, v, w, ab, aa, z, y, ac, ad, ai, ag, af, ae, aj, ak, hq]; done) | skip
                refine regv_skip (s1 := ?_) ?_ ?_ ?_
                rotate_left
                · simp [a, b, e, d, f, g, i, j, m, k, q, o, u, v, w, ab, aa, z, y, ac, ad, ai, ag, af, ae, aj, ak]; done
                · simp [a, b, e, d, f, g, i, j, m, k, q, o, u, v, w, ab, aa, z, y, ac, ad, ai, ag, af, ae, aj, ak]; rfl
                refine regv_skip (s1 := ?_) ?_ ?_ ?_
                rotate_left
                · simp [a, b, e, d, f, g, i, j, m, k, q, o, u, v, w, ab, aa, z, y, ac, ad, ai, ag, af, ae, aj, ak]; done
                · simp [a, b, e, d, f, g, i, j, m, k, q, o, u, v, w, ab, aa, z, y, ac, ad, ai, ag, af, ae, aj, ak]; rfl
                refine regv_skip (s1 := ?_) ?_ ?_ ?_
                rotate_left
                · simp [a, b, e, d, f, g, i, j, m, k, q, o, u, v, w, ab, aa, z, y, ac, ad, ai, ag, af, ae, aj, ak]; done
                · simp [a, b, e, d, f, g, i, j, m, k, q, o, u, v, w, ab, aa, z, y, ac, ad, ai, ag, af, ae, aj, ak]; rfl
                refine regv_skip (s1 := ?_) ?_ ?_ ?_
                rotate_left
                · simp [a, b, e, d, f, g, i, j, m, k, q, o, u, v, w, ab, aa, z, y, ac, ad, ai, ag, af, ae, aj, ak]; done
                · simp [a, b, e, d, f, g, i, j, m, k, q, o, u, v, w, ab, aa, z, y, ac, ad, ai, ag, af, ae, aj, ak]; rfl
                refine regv_skip (s1 := ?_) ?_ ?_ ?_
                rotate_left
                · simp [a, b, e, d, f, g, i, j, m, k, q, o, u, v, w, ab, aa, z, y, ac, ad, ai, ag, af, ae, aj, ak]; done
                · simp [a, b, e, d, f, g, i, j, m, k, q, o, u, v, w, ab, aa, z, y, ac, ad, ai, ag, af, ae, aj, ak]; rfl
                iterate 2
                  refine regv_pure (s1 := ?_) rfl rfl ?_ ?_ ?_
                  rotate_left
                  · simp [a, b, e, d, f, g, i, j, m, k, q, o, u, v, w, ab, aa, z, y, ac, ad, ai, ag, af, ae, aj, ak]; rfl
                  · first | (simp [a, b, e, d, f, g, i, j, m, k, q, o, u, v, w, ab, aa, z, y, ac, ad, ai, ag, af, ae, aj, ak] <;> omega) | (have hq := ak; simp at hq; simp [a, b, e, d, f, g, i, j, m, k, q, o, u, v, w, ab, aa, z, y, ac, ad, ai, ag, af, ae, aj, ak, hq]; done) | skip
                refine regv_nil ?_
                cases h
                refine Wp.ret (endQ_ret0 rfl ?_)
                repeat' first | exact All2.nil | refine All2.cons ?_ ?_ | refine AvLe.tups ?_ | refine AvLe.aggs ?_
                all_goals first
                  | (exact AvLe.refl _ rfl)
                  | (exact AvLe.nil _)
                  | (exact AvLe.znil _)
                  | (exact AvLe.ghost _ rfl)
                  | (exact AvLe.zghost _ rfl)
                  | (exact AvLe.sl' rfl (by simp [a, b, e, d, f, g, i, j, m, k, q, o, u, v, w, ab, aa, z, y, ac, ad, ai, ag, af, ae, aj, ak]; done) (by simp [a, b, e, d, f, g, i, j, m, k, q, o, u, v, w, ab, aa, z, y, ac, ad, ai, ag, af, ae, aj, ak]; done))
                  | (exact AvLe.frz' rfl rfl rfl (by simp [a, b, e, d, f, g, i, j, m, k, q, o, u, v, w, ab, aa, z, y, ac, ad, ai, ag, af, ae, aj, ak]; done) (by simp [a, b, e, d, f, g, i, j, m, k, q, o, u, v, w, ab, aa, z, y, ac, ad, ai, ag, af, ae, aj, ak]; done) (by simp [a, b, e, d, f, g, i, j, m, k, q, o, u, v, w, ab, aa, z, y, ac, ad, ai, ag, af, ae, aj, ak]; done))
                  | (exact AvLe.list' (by simp [a, b, e, d, f, g, i, j, m, k, q, o, u, v, w, ab, aa, z, y, ac, ad, ai, ag, af, ae, aj, ak]; done) (by simp [a, b, e, d, f, g, i, j, m, k, q, o, u, v, w, ab, aa, z, y, ac, ad, ai, ag, af, ae, aj, ak]; done))
                  | (exact AvLe.eq (by simp [a, b, e, d, f, g, i, j, m, k, q, o, u, v, w, ab, aa, z, y, ac, ad, ai, ag, af, ae, aj, ak]; done) rfl)
              · rw [ak, if_pos rfl] at h
                refine regv_pure (s1 := ?_) rfl ?_ ?_ ?_ ?_
                rotate_left
                · simp [a, b, e, d, f, g, i, j, m, k, q, o, u, v, w, ab, aa, z, y, ac, ad, ai, ag, af, ae, aj, ak]; done
                · simp [a, b, e, d, f, g, i, j, m, k, q, o, u, v, w, ab, aa, z, y, ac, ad, ai, ag, af, ae, aj, ak]; rfl
                · first | (simp [a, b, e, d, f, g, i, j, m, k, q, o, u, v, w, ab, aa, z, y, ac, ad, ai, ag, af, ae, aj, ak] <;> omega) | (have hq := ak; simp at hq; simp [a, b, e, d, f, g, i, j, m, k, q, o, u, v, w, ab, aa, z, y, ac, ad, ai, ag, af, ae, aj, ak, hq]; done) | skip
                refine regv_pure (s1 := ?_) rfl ?_ ?_ ?_ ?_
                rotate_left
                · simp [a, b, e, d, f, g, i, j, m, k, q, o, u, v, w, ab, aa, z, y, ac, ad, ai, ag, af, ae, aj, ak]; done
                · simp [a, b, e, d, f, g, i, j, m, k, q, o, u, v, w, ab, aa, z, y, ac, ad, ai, ag, af, ae, aj, ak]; rfl
                · first | (simp [a, b, e, d, f, g, i, j, m, k, q, o, u, v, w, ab, aa, z, y, ac, ad, ai, ag, af, ae, aj, ak] <;> omega) | (have hq := ak; simp at hq; simp [a, b, e, d, f, g, i, j, m, k, q, o, u, v, w, ab, aa, z, y, ac, ad, ai, ag, af, ae, aj, ak, hq]; done) | skip
                iterate 2
                  refine regv_pure (s1 := ?_) rfl rfl ?_ ?_ ?_
                  rotate_left
                  · simp [a, b, e, d, f, g, i, j, m, k, q, o, u, v, w, ab, aa, z, y, ac, ad, ai, ag, af, ae, aj, ak]; rfl
                  · first | (simp [a, b, e, d, f, g, i, j, m, k, q, o, u, v, w, ab, aa, z, y, ac, ad, ai, ag, af, ae, aj, ak] <;> omega) | (have hq := ak; simp at hq; simp [a, b, e, d, f, g, i, j, m, k, q, o, u, v, w, ab, aa, z, y, ac, ad, ai, ag, af, ae, aj, ak, hq]; done) | skip
                cases am : (!bp)
                · rw [am, if_neg (by simp)] at h
                  refine regv_skip (s1 := ?_) ?_ ?_ ?_
                  rotate_left
                  · simp [a, b, e, d, f, g, i, j, m, k, q, o, u, v, w, ab, aa, z, y, ac, ad, ai, ag, af, ae, aj, ak, am]; done
                  · simp [a, b, e, d, f, g, i, j, m, k, q, o, u, v, w, ab, aa, z, y, ac, ad, ai, ag, af, ae, aj, ak, am]; rfl
                  refine regv_skip (s1 := ?_) ?_ ?_ ?_
                  rotate_left
                  · simp [a, b, e, d, f, g, i, j, m, k, q, o, u, v, w, ab, aa, z, y, ac, ad, ai, ag, af, ae, aj, ak, am]; done
                  · simp [a, b, e, d, f, g, i, j, m, k, q, o, u, v, w, ab, aa, z, y, ac, ad, ai, ag, af, ae, aj, ak, am]; rfl
                  refine regv_skip (s1 := ?_) ?_ ?_ ?_
                  rotate_left
                  · simp [a, b, e, d, f, g, i, j, m, k, q, o, u, v, w, ab, aa, z, y, ac, ad, ai, ag, af, ae, aj, ak, am]; done
                  · simp [a, b, e, d, f, g, i, j, m, k, q, o, u, v, w, ab, aa, z, y, ac, ad, ai, ag, af, ae, aj, ak, am]; rfl
                  refine regv_skip (s1 := ?_) ?_ ?_ ?_
                  rotate_left
                  · simp [a, b, e, d, f, g, i, j, m, k, q, o, u, v, w, ab, aa, z, y, ac, ad, ai, ag, af, ae, aj, ak, am]; done
                  · simp [a, b, e, d, f, g, i, j, m, k, q, o, u, v, w, ab, aa, z, y, ac, ad, ai, ag, af, ae, aj, ak, am]; rfl
                  iterate 2
                    refine regv_pure (s1 := ?_) rfl rfl ?_ ?_ ?_
                    rotate_left
                    · simp [a, b, e, d, f, g, i, j, m, k, q, o, u, v, w, ab, aa, z, y, ac, ad, ai, ag, af, ae, aj, ak, am]; rfl
                    · first | (simp [a, b, e, d, f, g, i, j, m, k, q, o, u, v, w, ab, aa, z, y, ac, ad, ai, ag, af, ae, aj, ak, am] <;> omega) | (have hq := am; simp at hq; simp [a, b, e, d, f, g, i, j, m, k, q, o, u, v, w, ab, aa, z, y, ac, ad, ai, ag, af, ae, aj, ak, am, hq]; done) | skip
                  refine regv_skip (s1 := ?_) ?_ ?_ ?_
                  rotate_left
                  · simp [a, b, e, d, f, g, i, j, m, k, q, o, u, v, w, ab, aa, z, y, ac, ad, ai, ag, af, ae, aj, ak, am]; done
                  · simp [a, b, e, d, f, g, i, j, m, k, q, o, u, v, w, ab, aa, z, y, ac, ad, ai, ag, af, ae, aj, ak, am]; rfl
                  refine regv_skip (s1 := ?_) ?_ ?_ ?_
                  rotate_left
                  · simp [a, b, e, d, f, g, i, j, m, k, q, o, u, v, w, ab, aa, z, y, ac, ad, ai, ag, af, ae, aj, ak, am]; done
                  · simp [a, b, e, d, f, g, i, j, m, k, q, o, u, v, w, ab, aa, z, y, ac, ad, ai, ag, af, ae, aj, ak, am]; rfl
                  refine regv_skip (s1 := ?_) ?_ ?_ ?_
                  rotate_left
                  · simp [a, b, e, d, f, g, i, j, m, k, q, o, u, v, w, ab, aa, z, y, ac, ad, ai, ag, af, ae, aj, ak, am]; done
                  · simp [a, b, e, d, f, g, i, j, m, k, q, o, u, v, w, ab, aa, z, y, ac, ad, ai, ag, af, ae, aj, ak, am]; rfl
                  refine regv_skip (s1 := ?_) ?_ ?_ ?_
                  rotate_left
                  · simp [a, b, e, d, f, g, i, j, m, k, q, o, u, v, w, ab, aa, z, y, ac, ad, ai, ag, af, ae, aj, ak, am]; done
                  · simp [a, b, e, d, f, g, i, j, m, k, q, o, u, v, w, ab, aa, z, y, ac, ad, ai, ag, af, ae, aj, ak, am]; rfl
                  refine regv_skip (s1 := ?_) ?_ ?_ ?_
                  rotate_left
                  · simp [a, b, e, d, f, g, i, j, m, k, q, o, u, v, w, ab, aa, z, y, ac, ad, ai, ag, af, ae, aj, ak, am]; done
                  · simp [a, b, e, d, f, g, i, j, m, k, q, o, u, v, w, ab, aa, z, y, ac, ad, ai, ag, af, ae, aj, ak, am]; rfl
                  iterate 2
                    refine regv_pure (s1 := ?_) rfl rfl ?_ ?_ ?_
                    rotate_left
                    · simp [a, b, e, d, f, g, i, j, m, k, q, o, u, v, w, ab, aa, z, y, ac, ad, ai, ag, af, ae, aj, ak, am]; rfl
                    · first | (simp [a, b, e, d, f, g, i, j, m, k, q, o, u, v, w, ab, aa, z, y, ac, ad, ai, ag, af, ae, aj, ak, am] <;> omega) | (have hq := am; simp at hq; simp [a, b, e, d, f, g, i, j, m, k, q, o, u, v, w, ab, aa, z, y, ac, ad, ai, ag, af, ae, aj, ak, am, hq]; done) | skip
                  refine regv_nil ?_
                  cases h
                  refine Wp.ret (endQ_ret0 rfl ?_)
                  repeat' first | exact All2.nil | refine All2.cons ?_ ?_ | refine AvLe.tups ?_ | refine AvLe.aggs ?_
                  all_goals first
                    | (exact AvLe.refl _ rfl)
                    | (exact AvLe.nil _)
                    | (exact AvLe.znil _)
                    | (exact AvLe.ghost _ rfl)
                    | (exact AvLe.zghost _ rfl)
                    | (exact AvLe.sl' rfl (by simp [a, b, e, d, f, g, i, j, m, k, q, o, u, v, w, ab, aa, z, y, ac, ad, ai, ag, af, ae, aj, ak, am]; done) (by simp [a, b, e, d, f, g, i, j, m, k, q, o, u, v, w, ab, aa, z, y, ac, ad, ai, ag, af, ae, aj, ak, am]; done))
                    | (exact AvLe.frz' rfl rfl rfl (by simp [a, b, e, d, f, g, i, j, m, k, q, o, u, v, w, ab, aa, z, y, ac, ad, ai, ag, af, ae, aj, ak, am]; done) (by simp [a, b, e, d, f, g, i, j, m, k, q, o, u, v, w, ab, aa, z, y, ac, ad, ai, ag, af, ae, aj, ak, am]; done) (by simp [a, b, e, d, f, g, i, j, m, k, q, o, u, v, w, ab, aa, z, y, ac, ad, ai, ag, af, ae, aj, ak, am]; done))
                    | (exact AvLe.list' (by simp [a, b, e, d, f, g, i, j, m, k, q, o, u, v, w, ab, aa, z, y, ac, ad, ai, ag, af, ae, aj, ak, am]; done) (by simp [a, b, e, d, f, g, i, j, m, k, q, o, u, v, w, ab, aa, z, y, ac, ad, ai, ag, af, ae, aj, ak, am]; done))
                    | (exact AvLe.eq (by simp [a, b, e, d, f, g, i, j, m, k, q, o, u, v, w, ab, aa, z, y, ac, ad, ai, ag, af, ae, aj, ak, am]; done) rfl)
                · rw [am, if_pos rfl] at h
                  refine regv_pure (s1 := ?_) rfl ?_ ?_ ?_ ?_
                  rotate_left
                  · simp [a, b, e, d, f, g, i, j, m, k, q, o, u, v, w, ab, aa, z, y, ac, ad, ai, ag, af, ae, aj, ak, am]; done
                  · simp [a, b, e, d, f, g, i, j, m, k, q, o, u, v, w, ab, aa, z, y, ac, ad, ai, ag, af, ae, aj, ak, am]; rfl
                  · first | (simp [a, b, e, d, f, g, i, j, m, k, q, o, u, v, w, ab, aa, z, y, ac, ad, ai, ag, af, ae, aj, ak, am] <;> omega) | (have hq := am; simp at hq; simp [a, b, e, d, f, g, i, j, m, k, q, o, u, v, w, ab, aa, z, y, ac, ad, ai, ag, af, ae, aj, ak, am, hq]; done) | skip
                  refine regv_pure (s1 := ?_) rfl ?_ ?_ ?_ ?_
                  rotate_left
                  · simp [a, b, e, d, f, g, i, j, m, k, q, o, u, v, w, ab, aa, z, y, ac, ad, ai, ag, af, ae, aj, ak, am]; done
                  · simp [a, b, e, d, f, g, i, j, m, k, q, o, u, v, w, ab, aa, z, y, ac, ad, ai, ag, af, ae, aj, ak, am]; rfl
                  · first | (simp [a, b, e, d, f, g, i, j, m, k, q, o, u, v, w, ab, aa, z, y, ac, ad, ai, ag, af, ae, aj, ak, am] <;> omega) | (have hq := am; simp at hq; simp [a, b, e, d, f, g, i, j, m, k, q, o, u, v, w, ab, aa, z, y, ac, ad, ai, ag, af, ae, aj, ak, am, hq]; done) | skip
                  refine regv_pure (s1 := ?_) rfl ?_ ?_ ?_ ?_
                  rotate_left
                  · simp [a, b, e, d, f, g, i, j, m, k, q, o, u, v, w, ab, aa, z, y, ac, ad, ai, ag, af, ae, aj, ak, am]; done
                  · simp [a, b, e, d, f, g, i, j, m, k, q, o, u, v, w, ab, aa, z, y, ac, ad, ai, ag, af, ae, aj, ak, am]; rfl
                  · first | (simp [a, b, e, d, f, g, i, j, m, k, q, o, u, v, w, ab, aa, z, y, ac, ad, ai, ag, af, ae, aj, ak, am] <;> omega) | (have hq := am; simp at hq; simp [a, b, e, d, f, g, i, j, m, k, q, o, u, v, w, ab, aa, z, y, ac, ad, ai, ag, af, ae, aj, ak, am, hq]; done) | skip
                  refine regv_pure (s1 := ?_) rfl ?_ ?_ ?_ ?_
                  rotate_left
                  · simp [a, b, e, d, f, g, i, j, m, k, q, o, u, v, w, ab, aa, z, y, ac, ad, ai, ag, af, ae, aj, ak, am]; done
                  · simp [a, b, e, d, f, g, i, j, m, k, q, o, u, v, w, ab, aa, z, y, ac, ad, ai, ag, af, ae, aj, ak, am]; rfl
                  · first | (simp [a, b, e, d, f, g, i, j, m, k, q, o, u, v, w, ab, aa, z, y, ac, ad, ai, ag, af, ae, aj, ak, am] <;> omega) | (have hq := am; simp at hq; simp [a, b, e, d, f, g, i, j, m, k, q, o, u, v, w, ab, aa, z, y, ac, ad, ai, ag, af, ae, aj, ak, am, hq]; done) | skip
                  iterate 2
                    refine regv_pure (s1 := ?_) rfl rfl ?_ ?_ ?_
                    rotate_left
                    · simp [a, b, e, d, f, g, i, j, m, k, q, o, u, v, w, ab, aa, z, y, ac, ad, ai, ag, af, ae, aj, ak, am]; rfl
                    · first | (simp [a, b, e, d, f, g, i, j, m, k, q, o, u, v, w, ab, aa, z, y, ac, ad, ai, ag, af, ae, aj, ak, am] <;> omega) | (have hq := am; simp at hq; simp [a, b, e, d, f, g, i, j, m, k, q, o, u, v, w, ab, aa, z, y, ac, ad, ai, ag, af, ae, aj, ak, am, hq]; done) | skip
                  cases ao : ((bo.Q.length : Int) == 1)
                  · rw [ao, if_neg (by simp)] at h
                    refine regv_skip (s1 := ?_) ?_ ?_ ?_
                    rotate_left
                    · simp [a, b, e, d, f, g, i, j, m, k, q, o, u, v, w, ab, aa, z, y, ac, ad, ai, ag, af, ae, aj, ak, am, ao]; done
                    · simp [a, b, e, d, f, g, i, j, m, k, q, o, u, v, w, ab, aa, z, y, ac, ad, ai, ag, af, ae, aj, ak, am, ao]; rfl
                    refine regv_skip (s1 := ?_) ?_ ?_ ?_
                    rotate_left
                    · simp [a, b, e, d, f, g, i, j, m, k, q, o, u, v, w, ab, aa, z, y, ac, ad, ai, ag, af, ae, aj, ak, am, ao]; done
                    · simp [a, b, e, d, f, g, i, j, m, k, q, o, u, v, w, ab, aa, z, y, ac, ad, ai, ag, af, ae, aj, ak, am, ao]; rfl
                    refine regv_skip (s1 := ?_) ?_ ?_ ?_
                    rotate_left
                    · simp [a, b, e, d, f, g, i, j, m, k, q, o, u, v, w, ab, aa, z, y, ac, ad, ai, ag, af, ae, aj, ak, am, ao]; done
                    · simp [a, b, e, d, f, g, i, j, m, k, q, o, u, v, w, ab, aa, z, y, ac, ad, ai, ag, af, ae, aj, ak, am, ao]; rfl
                    refine regv_skip (s1 := ?_) ?_ ?_ ?_
                    rotate_left
                    · simp [a, b, e, d, f, g, i, j, m, k, q, o, u, v, w, ab, aa, z, y, ac, ad, ai, ag, af, ae, aj, ak, am, ao]; done
                    · simp [a, b, e, d, f, g, i, j, m, k, q, o, u, v, w, ab, aa, z, y, ac, ad, ai, ag, af, ae, aj, ak, am, ao]; rfl
                    refine regv_skip (s1 := ?_) ?_ ?_ ?_
                    rotate_left
                    · simp [a, b, e, d, f, g, i, j, m, k, q, o, u, v, w, ab, aa, z, y, ac, ad, ai, ag, af, ae, aj, ak, am, ao]; done
                    · simp [a, b, e, d, f, g, i, j, m, k, q, o, u, v, w, ab, aa, z, y, ac, ad, ai, ag, af, ae, aj, ak, am, ao]; rfl
                    iterate 2
                      refine regv_pure (s1 := ?_) rfl rfl ?_ ?_ ?_
                      rotate_left
                      · simp [a, b, e, d, f, g, i, j, m, k, q, o, u, v, w, ab, aa, z, y, ac, ad, ai, ag, af, ae, aj, ak, am, ao]; rfl
                      · first | (simp [a, b, e, d, f, g, i, j, m, k, q, o, u, v, w, ab, aa, z, y, ac, ad, ai, ag, af, ae, aj, ak, am, ao] <;> omega) | (have hq := ao; simp at hq; simp [a, b, e, d, f, g, i, j, m, k, q, o, u, v, w, ab, aa, z, y, ac, ad, ai, ag, af, ae, aj, ak, am, ao, hq]; done) | skip
                    refine regv_nil ?_
                    cases h
                    refine Wp.ret (endQ_ret0 rfl ?_)
                    repeat' first | exact All2.nil | refine All2.cons ?_ ?_ | refine AvLe.tups ?_ | refine AvLe.aggs ?_
                    all_goals first
                      | (exact AvLe.refl _ rfl)
                      | (exact AvLe.nil _)
                      | (exact AvLe.znil _)
                      | (exact AvLe.ghost _ rfl)
                      | (exact AvLe.zghost _ rfl)
                      | (exact AvLe.sl' rfl (by simp [a, b, e, d, f, g, i, j, m, k, q, o, u, v, w, ab, aa, z, y, ac, ad, ai, ag, af, ae, aj, ak, am, ao]; done) (by simp [a, b, e, d, f, g, i, j, m, k, q, o, u, v, w, ab, aa, z, y, ac, ad, ai, ag, af, ae, aj, ak, am, ao]; done))
                      | (exact AvLe.frz' rfl rfl rfl (by simp [a, b, e, d, f, g, i, j, m, k, q, o, u, v, w, ab, aa, z, y, ac, ad, ai, ag, af, ae, aj, ak, am, ao]; done) (by simp [a, b, e, d, f, g, i, j, m, k, q, o, u, v, w, ab, aa, z, y, ac, ad, ai, ag, af, ae, aj, ak, am, ao]; done) (by simp [a, b, e, d, f, g, i, j, m, k, q, o, u, v, w, ab, aa, z, y, ac, ad, ai, ag, af, ae, aj, ak, am, ao]; done))
                      | (exact AvLe.list' (by simp [a, b, e, d, f, g, i, j, m, k, q, o, u, v, w, ab, aa, z, y, ac, ad, ai, ag, af, ae, aj, ak, am, ao]; done) (by simp [a, b, e, d, f, g, i, j, m, k, q, o, u, v, w, ab, aa, z, y, ac, ad, ai, ag, af, ae, aj, ak, am, ao]; done))
                      | (exact AvLe.eq (by simp [a, b, e, d, f, g, i, j, m, k, q, o, u, v, w, ab, aa, z, y, ac, ad, ai, ag, af, ae, aj, ak, am, ao]; done) rfl)
                  · rw [ao, if_pos rfl] at h
                    refine regv_pure (s1 := ?_) rfl ?_ ?_ ?_ ?_
                    rotate_left
                    · simp [a, b, e, d, f, g, i, j, m, k, q, o, u, v, w, ab, aa, z, y, ac, ad, ai, ag, af, ae, aj, ak, am, ao]; done
                    · simp [a, b, e, d, f, g, i, j, m, k, q, o, u, v, w, ab, aa, z, y, ac, ad, ai, ag, af, ae, aj, ak, am, ao]; rfl
                    · first | (simp [a, b, e, d, f, g, i, j, m, k, q, o, u, v, w, ab, aa, z, y, ac, ad, ai, ag, af, ae, aj, ak, am, ao] <;> omega) | (have hq := ao; simp at hq; simp [a, b, e, d, f, g, i, j, m, k, q, o, u, v, w, ab, aa, z, y, ac, ad, ai, ag, af, ae, aj, ak, am, ao, hq]; done) | skip
                    refine regv_pure (s1 := ?_) rfl ?_ ?_ ?_ ?_
                    rotate_left
                    · simp [a, b, e, d, f, g, i, j, m, k, q, o, u, v, w, ab, aa, z, y, ac, ad, ai, ag, af, ae, aj, ak, am, ao]; done
                    · simp [a, b, e, d, f, g, i, j, m, k, q, o, u, v, w, ab, aa, z, y, ac, ad, ai, ag, af, ae, aj, ak, am, ao]; rfl
                    · first | (simp [a, b, e, d, f, g, i, j, m, k, q, o, u, v, w, ab, aa, z, y, ac, ad, ai, ag, af, ae, aj, ak, am, ao] <;> omega) | (have hq := ao; simp at hq; simp [a, b, e, d, f, g, i, j, m, k, q, o, u, v, w, ab, aa, z, y, ac, ad, ai, ag, af, ae, aj, ak, am, ao, hq]; done) | skip
                    obtain ⟨ce, bj, h⟩ := obind h
                    obtain ⟨av, au, aq⟩ := atI_some bj
                    try simp [a, b, e, d, f, g, i, j, m, k, q, o, u, v, w, ab, aa, z, y, ac, ad, ai, ag, af, ae, aj, ak, am, ao] at au
                    try simp only [Int.toNat_natCast, Int.reduceToNat, Nat.zero_add, Nat.add_zero] at aq
                    have ap := getElem_of aq
                    refine regv_pure (s1 := ?_) rfl ?_ ?_ ?_ ?_
                    rotate_left
                    · simp [a, b, e, d, f, g, i, j, m, k, q, o, u, v, w, ab, aa, z, y, ac, ad, ai, ag, af, ae, aj, ak, am, ao, av, au, aq, ap]; done
                    · simp [a, b, e, d, f, g, i, j, m, k, q, o, u, v, w, ab, aa, z, y, ac, ad, ai, ag, af, ae, aj, ak, am, ao, av, au, aq, ap]; rfl
                    · first | (simp [a, b, e, d, f, g, i, j, m, k, q, o, u, v, w, ab, aa, z, y, ac, ad, ai, ag, af, ae, aj, ak, am, ao, av, au, aq, ap] <;> omega) | (have hq := ap; simp at hq; simp [a, b, e, d, f, g, i, j, m, k, q, o, u, v, w, ab, aa, z, y, ac, ad, ai, ag, af, ae, aj, ak, am, ao, av, au, aq, ap, hq]; done) | skip
                    refine regv_pure (s1 := ?_) rfl ?_ ?_ ?_ ?_
                    rotate_left
                    · simp [a, b, e, d, f, g, i, j, m, k, q, o, u, v, w, ab, aa, z, y, ac, ad, ai, ag, af, ae, aj, ak, am, ao, av, au, aq, ap]; done
                    · simp [a, b, e, d, f, g, i, j, m, k, q, o, u, v, w, ab, aa, z, y, ac, ad, ai, ag, af, ae, aj, ak, am, ao, av, au, aq, ap]; rfl
                    · first | (simp [a, b, e, d, f, g, i, j, m, k, q, o, u, v, w, ab, aa, z, y, ac, ad, ai, ag, af, ae, aj, ak, am, ao, av, au, aq, ap] <;> omega) | (have hq := ap; simp at hq; simp [a, b, e, d, f, g, i, j, m, k, q, o, u, v, w, ab, aa, z, y, ac, ad, ai, ag, af, ae, aj, ak, am, ao, av, au, aq, ap, hq]; done) | skip
                    refine regv_pure (s1 := ?_) rfl ?_ ?_ ?_ ?_
                    rotate_left
                    · simp [a, b, e, d, f, g, i, j, m, k, q, o, u, v, w, ab, aa, z, y, ac, ad, ai, ag, af, ae, aj, ak, am, ao, av, au, aq, ap]; done
                    · simp [a, b, e, d, f, g, i, j, m, k, q, o, u, v, w, ab, aa, z, y, ac, ad, ai, ag, af, ae, aj, ak, am, ao, av, au, aq, ap]; rfl
                    · first | (simp [a, b, e, d, f, g, i, j, m, k, q, o, u, v, w, ab, aa, z, y, ac, ad, ai, ag, af, ae, aj, ak, am, ao, av, au, aq, ap] <;> omega) | (have hq := ap; simp at hq; simp [a, b, e, d, f, g, i, j, m, k, q, o, u, v, w, ab, aa, z, y, ac, ad, ai, ag, af, ae, aj, ak, am, ao, av, au, aq, ap, hq]; done) | skip
                    iterate 2
                      refine regv_pure (s1 := ?_) rfl rfl ?_ ?_ ?_
                      rotate_left
                      · simp [a, b, e, d, f, g, i, j, m, k, q, o, u, v, w, ab, aa, z, y, ac, ad, ai, ag, af, ae, aj, ak, am, ao, av, au, aq, ap]; rfl
                      · first | (simp [a, b, e, d, f, g, i, j, m, k, q, o, u, v, w, ab, aa, z, y, ac, ad, ai, ag, af, ae, aj, ak, am, ao, av, au, aq, ap] <;> omega) | (have hq := ap; simp at hq; simp [a, b, e, d, f, g, i, j, m, k, q, o, u, v, w, ab, aa, z, y, ac, ad, ai, ag, af, ae, aj, ak, am, ao, av, au, aq, ap, hq]; done) | skip
                    refine regv_nil ?_
                    cases h
                    refine Wp.ret (endQ_ret0 rfl ?_)
                    repeat' first | exact All2.nil | refine All2.cons ?_ ?_ | refine AvLe.tups ?_ | refine AvLe.aggs ?_
                    all_goals first
                      | (exact AvLe.refl _ rfl)
                      | (exact AvLe.nil _)
                      | (exact AvLe.znil _)
                      | (exact AvLe.ghost _ rfl)
                      | (exact AvLe.zghost _ rfl)
                      | (exact AvLe.sl' rfl (by simp [a, b, e, d, f, g, i, j, m, k, q, o, u, v, w, ab, aa, z, y, ac, ad, ai, ag, af, ae, aj, ak, am, ao, av, au, aq, ap]; done) (by simp [a, b, e, d, f, g, i, j, m, k, q, o, u, v, w, ab, aa, z, y, ac, ad, ai, ag, af, ae, aj, ak, am, ao, av, au, aq, ap]; done))
                      | (exact AvLe.frz' rfl rfl rfl (by simp [a, b, e, d, f, g, i, j, m, k, q, o, u, v, w, ab, aa, z, y, ac, ad, ai, ag, af, ae, aj, ak, am, ao, av, au, aq, ap]; done) (by simp [a, b, e, d, f, g, i, j, m, k, q, o, u, v, w, ab, aa, z, y, ac, ad, ai, ag, af, ae, aj, ak, am, ao, av, au, aq, ap]; done) (by simp [a, b, e, d, f, g, i, j, m, k, q, o, u, v, w, ab, aa, z, y, ac, ad, ai, ag, af, ae, aj, ak, am, ao, av, au, aq, ap]; done))
                      | (exact AvLe.list' (by simp [a, b, e, d, f, g, i, j, m, k, q, o, u, v, w, ab, aa, z, y, ac, ad, ai, ag, af, ae, aj, ak, am, ao, av, au, aq, ap]; done) (by simp [a, b, e, d, f, g, i, j, m, k, q, o, u, v, w, ab, aa, z, y, ac, ad, ai, ag, af, ae, aj, ak, am, ao, av, au, aq, ap]; done))
                      | (exact AvLe.eq (by simp [a, b, e, d, f, g, i, j, m, k, q, o, u, v, w, ab, aa, z, y, ac, ad, ai, ag, af, ae, aj, ak, am, ao, av, au, aq, ap]; done) rfl)

def law16_RungevalEdgesOnce_S1 (n : Nat) (_append0 : ApiRung) (a1 : List Bool) (a2 : ApiState) : St :=
  { ch := [(1, aL cB a1), (3, .hptr 0 0 0), (5, .hptr 1 0 0)], hp := [.var [.str _append0.Label, aL cApiContact _append0.Contacts, aL cApiCoil _append0.Coils, .str _append0.Jump], .var [aL cB a2.Q, aL cB a2.M, aL cB a2.E]], base := 0, n := 135, cond := True }

def law16_RungevalEdgesOnce_S2 (n : Nat) (_append0 : ApiRung) (a1 : List Bool) (au : ApiState) : St :=
  { ch := [(1, aL cB a1), (3, .hptr 0 0 0), (11, .hptr 1 0 0)], hp := [.var [.str _append0.Label, aL cApiContact _append0.Contacts, aL cApiCoil _append0.Coils, .str _append0.Jump], .var [aL cB au.Q, aL cB au.M, aL cB au.E]], base := 0, n := 135, cond := True }

def law16_RungevalEdgesOnce_S3 (n : Nat) (_append0 : ApiRung) (a1 : List Bool) (au : ApiState) (ay : List Bool) (az : Int) : St :=
  { ch := [(1, aL cB a1), (3, .hptr 0 0 0), (11, .hptr 1 0 0), (14, aL cB ay), (88, aL cApiContact _append0.Contacts), (89, .int .i64 (_append0.Contacts.length : Int)), (90, .int .i64 az)], hp := [.var [.str _append0.Label, aL cApiContact _append0.Contacts, aL cApiCoil _append0.Coils, .str _append0.Jump], .var [aL cB au.Q, aL cB au.M, aL cB au.E]], base := 0, n := 135, cond := True }

def law16_RungevalEdgesOnce_S4 (n : Nat) (_append0 : ApiRung) (a1 : List Bool) (a2 : ApiState) (aw : Int) : St :=
  { ch := [(1, aL cB a1), (3, .hptr 0 0 0), (5, .hptr 1 0 0), (31, aL cApiContact _append0.Contacts), (32, .int .i64 (_append0.Contacts.length : Int)), (33, .int .i64 aw)], hp := [.var [.str _append0.Label, aL cApiContact _append0.Contacts, aL cApiCoil _append0.Coils, .str _append0.Jump], .var [aL cB a2.Q, aL cB a2.M, aL cB a2.E]], base := 0, n := 135, cond := True }

def law16_RungevalEdgesOnce_S5 (n : Nat) (_append0 : ApiRung) (a1 : List Bool) (a2 : ApiState) (aw : Int) (av : ApiContact) (ba : Int) : St :=
  { ch := [(1, aL cB a1), (3, .hptr 0 0 0), (5, .hptr 1 0 0), (8, .hptr 2 0 0), (31, aL cApiContact _append0.Contacts), (32, .int .i64 (_append0.Contacts.length : Int)), (33, .int .i64 aw), (38, aL cApiCoil _append0.Coils), (39, .int .i64 (_append0.Coils.length : Int)), (40, .int .i64 ba)], hp := [.var [.str _append0.Label, aL cApiContact _append0.Contacts, aL cApiCoil _append0.Coils, .str _append0.Jump], .var [aL cB a2.Q, aL cB a2.M, aL cB a2.E], .var [.int .i64 av.Kind, .int .i64 av.A.Space, .int .i64 av.A.N, .str av.From, .str av.To]], base := 0, n := 135, cond := True }

theorem con_law16_RungevalEdgesOnce {n : Nat} {_append0 : ApiRung} {a1 : List Bool} {a2 : ApiState} {r : Bool} (h : law16_RungevalEdgesOnce n _append0 a1 a2 = some r) : Con Try.prog 5 [.agg (cApiRung _append0), aL cB a1, .agg (cApiState a2)] (.bool r) [] := by
  refine con_of (T := TT0) tt_ok Try.func5 (c := _) (by unfold Try.f5; rfl) Try.ntmps5 (rs := [.tmp 6]) (by rw [Try.results5]) (by unfold Try.f5; rfl) (by simp) ?_
  simp only [argsCh]
  dsimp only [law16_RungevalEdgesOnce] at h
  refine Wp.reg_seq (own := fun _ => false) tt_ok ?_
  iterate 3
    refine regv_pure (s1 := ?_) rfl rfl ?_ ?_ ?_
    rotate_left
    · simp []; rfl
    · first | (simp [] <;> omega) | skip
  refine regv_nil ?_
  refine Wp.seq ?_
  refine Wp.reg_seq (own := fun _ => false) tt_ok ?_
  iterate 3
    refine regv_pure (s1 := ?_) rfl rfl ?_ ?_ ?_
    rotate_left
    · simp []; rfl
    · first | (simp [] <;> omega) | skip
  obtain ⟨bz, bc, h⟩ := obind h
  refine regv_call2 (s' := ?_) (p := ?_) (con_law16_tooLarge bc) rfl rfl rfl rfl ?_ ?_ ?_ ?_ ?_ ?_
  rotate_left 2
  · simp []; rfl
  · first | exact .inl rfl | (refine .inl ?_; simp []; done) | (refine .inr ?_; dsimp only; repeat' first | exact All2.nil | refine All2.cons ?_ ?_) <;> first | exact AvLe.refl _ rfl | exact AvLe.nil _ | exact AvLe.znil _ | exact AvLe.list' (by simp []; done) (by simp []; done) | exact AvLe.eq (by simp []; done) rfl
  · first | (simp [] <;> omega) | skip
  · simp
  · simp []; rfl
  refine regv_nil ?_
  cases a : bz
  · rw [a, if_neg (by simp)] at h
    refine Wp.cond false (by first | (simp [a] <;> omega) | (have hq := a; simp at hq; simp [a, hq]; done)) (fun h0 => absurd h0 (by decide)) (fun _ => ?_)
    refine Wp.skip ?_
    show Wp _ _ _ _
    refine Wp.join (α := Unit) (fun x => law16_RungevalEdgesOnce_S1 n _append0 a1 a2 ) (fun x => law16_RungevalEdgesOnce_J1 n _append0 a1 a2  = some r) ?_ ?_
    · clear h
      rintro _ h
      simp only [law16_RungevalEdgesOnce_S1]
      dsimp only [law16_RungevalEdgesOnce_J1] at h
      refine Wp.reg_seq (own := fun _ => false) tt_ok ?_
      iterate 3
        refine regv_pure (s1 := ?_) rfl rfl ?_ ?_ ?_
        rotate_left
        · simp [a]; rfl
        · first | (simp [a] <;> omega) | (have hq := a; simp at hq; simp [a, hq]; done) | skip
      obtain ⟨⟨au, cj, ca⟩, bd, h⟩ := obind h
      dsimp only at h
      refine regv_call2 (s' := ?_) (p := ?_) (con_rungeval_Scan bd) rfl rfl rfl rfl ?_ ?_ ?_ ?_ ?_ ?_
      rotate_left 2
      · simp [a]; rfl
      · first | exact .inl rfl | (refine .inl ?_; simp [a]; done) | (refine .inr ?_; dsimp only; repeat' first | exact All2.nil | refine All2.cons ?_ ?_) <;> first | exact AvLe.refl _ rfl | exact AvLe.nil _ | exact AvLe.znil _ | exact AvLe.list' (by simp [a]; done) (by simp [a]; done) | exact AvLe.eq (by simp [a]; done) rfl
      · first | (simp [a] <;> omega) | (have hq := a; simp at hq; simp [a, hq]; done) | skip
      · simp
      · simp [a]; rfl
      iterate 8
        refine regv_pure (s1 := ?_) rfl rfl ?_ ?_ ?_
        rotate_left
        · simp [a]; rfl
        · first | (simp [a] <;> omega) | (have hq := a; simp at hq; simp [a, hq]; done) | skip
      refine regv_nil ?_
      refine Wp.seq ?_
      refine Wp.reg_seq (own := fun _ => false) tt_ok ?_
      iterate 2
        refine regv_pure (s1 := ?_) rfl rfl ?_ ?_ ?_
        rotate_left
        · simp [a]; rfl
        · first | (simp [a] <;> omega) | (have hq := a; simp at hq; simp [a, hq]; done) | skip
      refine regv_nil ?_
      cases b : (ca != 0)
      · rw [b, if_neg (by simp)] at h
        refine Wp.cond false (by first | (simp [a, b] <;> omega) | (have hq := b; simp at hq; simp [a, b, hq]; done)) (fun h0 => absurd h0 (by decide)) (fun _ => ?_)
        refine Wp.skip ?_
        show Wp _ _ _ _
        refine Wp.reg_seq (own := fun _ => false) tt_ok ?_
        iterate 3
          refine regv_pure (s1 := ?_) rfl rfl ?_ ?_ ?_
          rotate_left
          · simp [a, b]; rfl
          · first | (simp [a, b] <;> omega) | (have hq := b; simp at hq; simp [a, b, hq]; done) | skip
        obtain ⟨⟨ay, ck, cb⟩, be, h⟩ := obind h
        dsimp only at h
        refine regv_call2 (s' := ?_) (p := ?_) (con_rungeval_Contacts be) rfl rfl rfl rfl ?_ ?_ ?_ ?_ ?_ ?_
        rotate_left 2
        · simp [a, b]; rfl
        · first | exact .inl rfl | (refine .inl ?_; simp [a, b]; done) | (refine .inr ?_; dsimp only; repeat' first | exact All2.nil | refine All2.cons ?_ ?_) <;> first | exact AvLe.refl _ rfl | exact AvLe.nil _ | exact AvLe.znil _ | exact AvLe.list' (by simp [a, b]; done) (by simp [a, b]; done) | exact AvLe.eq (by simp [a, b]; done) rfl
        · first | (simp [a, b] <;> omega) | (have hq := b; simp at hq; simp [a, b, hq]; done) | skip
        · simp
        · simp [a, b]; rfl
        iterate 8
          refine regv_pure (s1 := ?_) rfl rfl ?_ ?_ ?_
          rotate_left
          · simp [a, b]; rfl
          · first | (simp [a, b] <;> omega) | (have hq := b; simp at hq; simp [a, b, hq]; done) | skip
        refine regv_nil ?_
        refine Wp.seq ?_
        refine Wp.reg_seq (own := fun _ => false) tt_ok ?_
        iterate 3
          refine regv_pure (s1 := ?_) rfl rfl ?_ ?_ ?_
          rotate_left
          · simp [a, b]; rfl
          · first | (simp [a, b] <;> omega) | (have hq := b; simp at hq; simp [a, b, hq]; done) | skip
        cases d : (cb != 0)
        · rw [d, if_neg (by simp)] at h
          refine regv_pure (s1 := ?_) rfl ?_ ?_ ?_ ?_
          rotate_left
          · simp [a, b, d]; done
          · simp [a, b, d]; rfl
          · first | (simp [a, b, d] <;> omega) | (have hq := d; simp at hq; simp [a, b, d, hq]; done) | skip
          refine regv_pure (s1 := ?_) rfl ?_ ?_ ?_ ?_
          rotate_left
          · simp [a, b, d]; done
          · simp [a, b, d]; rfl
          · first | (simp [a, b, d] <;> omega) | (have hq := d; simp at hq; simp [a, b, d, hq]; done) | skip
          obtain ⟨cc, bf, h⟩ := obind h
          refine regv_call2 (s' := ?_) (p := ?_) (con_ref03_Equal bf) rfl rfl rfl rfl ?_ ?_ ?_ ?_ ?_ ?_
          rotate_left 2
          · simp [a, b, d]; rfl
          · first | exact .inl rfl | (refine .inl ?_; simp [a, b, d]; done) | (refine .inr ?_; dsimp only; repeat' first | exact All2.nil | refine All2.cons ?_ ?_) <;> first | exact AvLe.refl _ rfl | exact AvLe.nil _ | exact AvLe.znil _ | exact AvLe.list' (by simp [a, b, d]; done) (by simp [a, b, d]; done) | exact AvLe.eq (by simp [a, b, d]; done) rfl
          · first | (simp [a, b, d] <;> omega) | (have hq := d; simp at hq; simp [a, b, d, hq]; done) | skip
          · simp
          · simp [a, b, d]; rfl
          refine regv_pure (s1 := ?_) rfl ?_ ?_ ?_ ?_
          rotate_left
          · simp [a, b, d]; done
          · simp [a, b, d]; rfl
          · first | (simp [a, b, d] <;> omega) | (have hq := d; simp at hq; simp [a, b, d, hq]; done) | skip
          iterate 2
            refine regv_pure (s1 := ?_) rfl rfl ?_ ?_ ?_
            rotate_left
            · simp [a, b, d]; rfl
            · first | (simp [a, b, d] <;> omega) | (have hq := d; simp at hq; simp [a, b, d, hq]; done) | skip
          cases e : (!cc)
          · rw [e, if_neg (by simp)] at h
            refine regv_pure (s1 := ?_) rfl ?_ ?_ ?_ ?_
            rotate_left
            · simp [a, b, d, e]; done
            · simp [a, b, d, e]; rfl
            · first | (simp [a, b, d, e] <;> omega) | (have hq := e; simp at hq; simp [a, b, d, e, hq]; done) | skip
            refine regv_pure (s1 := ?_) rfl ?_ ?_ ?_ ?_
            rotate_left
            · simp [a, b, d, e]; done
            · simp [a, b, d, e]; rfl
            · first | (simp [a, b, d, e] <;> omega) | (have hq := e; simp at hq; simp [a, b, d, e, hq]; done) | skip
            refine regv_pure (s1 := ?_) rfl ?_ ?_ ?_ ?_
            rotate_left
            · simp [a, b, d, e]; done
            · simp [a, b, d, e]; rfl
            · first | (simp [a, b, d, e] <;> omega) | (have hq := e; simp at hq; simp [a, b, d, e, hq]; done) | skip
            refine regv_pure (s1 := ?_) rfl ?_ ?_ ?_ ?_
            rotate_left
            · simp [a, b, d, e]; done
            · simp [a, b, d, e]; rfl
            · first | (simp [a, b, d, e] <;> omega) | (have hq := e; simp at hq; simp [a, b, d, e, hq]; done) | skip
            refine regv_pure (s1 := ?_) rfl ?_ ?_ ?_ ?_
            rotate_left
            · simp [a, b, d, e]; done
            · simp [a, b, d, e]; rfl
            · first | (simp [a, b, d, e] <;> omega) | (have hq := e; simp at hq; simp [a, b, d, e, hq]; done) | skip
            refine regv_pure (s1 := ?_) rfl ?_ ?_ ?_ ?_
            rotate_left
            · simp [a, b, d, e]; done
            · simp [a, b, d, e]; rfl
            · first | (simp [a, b, d, e] <;> omega) | (have hq := e; simp at hq; simp [a, b, d, e, hq]; done) | skip
            iterate 1
              refine regv_pure (s1 := ?_) rfl rfl ?_ ?_ ?_
              rotate_left
              · simp [a, b, d, e]; rfl
              · first | (simp [a, b, d, e] <;> omega) | (have hq := e; simp at hq; simp [a, b, d, e, hq]; done) | skip
            refine regv_nil ?_
            cases f : ((ay.length : Int) != (_append0.Contacts.length : Int))
            · rw [f, if_neg (by simp)] at h
              refine Wp.cond false (by first | (simp [a, b, d, e, f] <;> omega) | (have hq := f; simp at hq; simp [a, b, d, e, f, hq]; done)) (fun h0 => absurd h0 (by decide)) (fun _ => ?_)
              refine Wp.skip ?_
              show Wp _ _ _ _
              refine Wp.join (α := Unit) (fun x => law16_RungevalEdgesOnce_S2 n _append0 a1 au ) (fun x => law16_RungevalEdgesOnce_J2 n _append0 a1 au  = some r) ?_ ?_
              · clear h
                rintro _ h
                simp only [law16_RungevalEdgesOnce_S2]
                dsimp only [law16_RungevalEdgesOnce_J2] at h
                refine Wp.reg_seq (own := fun _ => false) tt_ok ?_
                iterate 3
                  refine regv_pure (s1 := ?_) rfl rfl ?_ ?_ ?_
                  rotate_left
                  · simp [a, b, d, e, f]; rfl
                  · first | (simp [a, b, d, e, f] <;> omega) | (have hq := f; simp at hq; simp [a, b, d, e, f, hq]; done) | skip
                obtain ⟨⟨cm, co, cd⟩, bg, h⟩ := obind h
                dsimp only at h
                refine regv_call2 (s' := ?_) (p := ?_) (con_rungeval_Scan bg) rfl rfl rfl rfl ?_ ?_ ?_ ?_ ?_ ?_
                rotate_left 2
                · simp [a, b, d, e, f]; rfl
                · first | exact .inl rfl | (refine .inl ?_; simp [a, b, d, e, f]; done) | (refine .inr ?_; dsimp only; repeat' first | exact All2.nil | refine All2.cons ?_ ?_) <;> first | exact AvLe.refl _ rfl | exact AvLe.nil _ | exact AvLe.znil _ | exact AvLe.list' (by simp [a, b, d, e, f]; done) (by simp [a, b, d, e, f]; done) | exact AvLe.eq (by simp [a, b, d, e, f]; done) rfl
                · first | (simp [a, b, d, e, f] <;> omega) | (have hq := f; simp at hq; simp [a, b, d, e, f, hq]; done) | skip
                · simp
                · simp [a, b, d, e, f]; rfl
                iterate 8
                  refine regv_pure (s1 := ?_) rfl rfl ?_ ?_ ?_
                  rotate_left
                  · simp [a, b, d, e, f]; rfl
                  · first | (simp [a, b, d, e, f] <;> omega) | (have hq := f; simp at hq; simp [a, b, d, e, f, hq]; done) | skip
                refine regv_nil ?_
                refine Wp.reg_seq (own := fun _ => false) tt_ok ?_
                iterate 3
                  refine regv_pure (s1 := ?_) rfl rfl ?_ ?_ ?_
                  rotate_left
                  · simp [a, b, d, e, f]; rfl
                  · first | (simp [a, b, d, e, f] <;> omega) | (have hq := f; simp at hq; simp [a, b, d, e, f, hq]; done) | skip
                obtain ⟨⟨cp, cq, ce⟩, bi, h⟩ := obind h
                dsimp only at h
                refine regv_call2 (s' := ?_) (p := ?_) (con_rungeval_Scan bi) rfl rfl rfl rfl ?_ ?_ ?_ ?_ ?_ ?_
                rotate_left 2
                · simp [a, b, d, e, f]; rfl
                · first | exact .inl rfl | (refine .inl ?_; simp [a, b, d, e, f]; done) | (refine .inr ?_; dsimp only; repeat' first | exact All2.nil | refine All2.cons ?_ ?_) <;> first | exact AvLe.refl _ rfl | exact AvLe.nil _ | exact AvLe.znil _ | exact AvLe.list' (by simp [a, b, d, e, f]; done) (by simp [a, b, d, e, f]; done) | exact AvLe.eq (by simp [a, b, d, e, f]; done) rfl
                · first | (simp [a, b, d, e, f] <;> omega) | (have hq := f; simp at hq; simp [a, b, d, e, f, hq]; done) | skip
                · simp
                · simp [a, b, d, e, f]; rfl
                iterate 8
                  refine regv_pure (s1 := ?_) rfl rfl ?_ ?_ ?_
                  rotate_left
                  · simp [a, b, d, e, f]; rfl
                  · first | (simp [a, b, d, e, f] <;> omega) | (have hq := f; simp at hq; simp [a, b, d, e, f, hq]; done) | skip
                refine regv_nil ?_
                refine Wp.reg_seq (own := fun _ => false) tt_ok ?_
                obtain ⟨cf, bj, h⟩ := obind h
                refine regv_call2 (s' := ?_) (p := ?_) (con_law16_alive bj) rfl rfl rfl rfl ?_ ?_ ?_ ?_ ?_ ?_
                rotate_left 2
                · simp [a, b, d, e, f]; rfl
                · first | exact .inl rfl | (refine .inl ?_; simp [a, b, d, e, f]; done) | (refine .inr ?_; dsimp only; repeat' first | exact All2.nil | refine All2.cons ?_ ?_) <;> first | exact AvLe.refl _ rfl | exact AvLe.nil _ | exact AvLe.znil _ | exact AvLe.list' (by simp [a, b, d, e, f]; done) (by simp [a, b, d, e, f]; done) | exact AvLe.eq (by simp [a, b, d, e, f]; done) rfl
                · first | (simp [a, b, d, e, f] <;> omega) | (have hq := f; simp at hq; simp [a, b, d, e, f, hq]; done) | skip
                · simp
                · simp [a, b, d, e, f]; rfl
                iterate 1
                  refine regv_pure (s1 := ?_) rfl rfl ?_ ?_ ?_
                  rotate_left
                  · simp [a, b, d, e, f]; rfl
                  · first | (simp [a, b, d, e, f] <;> omega) | (have hq := f; simp at hq; simp [a, b, d, e, f, hq]; done) | skip
                cases j : cf
                · rw [j, if_neg (by simp)] at h
                  refine regv_skip (s1 := ?_) ?_ ?_ ?_
                  rotate_left
                  · simp [a, b, d, e, f, j]; done
                  · simp [a, b, d, e, f, j]; rfl
                  refine regv_skip (s1 := ?_) ?_ ?_ ?_
                  rotate_left
                  · simp [a, b, d, e, f, j]; done
                  · simp [a, b, d, e, f, j]; rfl
                  iterate 2
                    refine regv_pure (s1 := ?_) rfl rfl ?_ ?_ ?_
                    rotate_left
                    · simp [a, b, d, e, f, j]; rfl
                    · first | (simp [a, b, d, e, f, j] <;> omega) | (have hq := j; simp at hq; simp [a, b, d, e, f, j, hq]; done) | skip
                  refine regv_skip (s1 := ?_) ?_ ?_ ?_
                  rotate_left
                  · simp [a, b, d, e, f, j]; done
                  · simp [a, b, d, e, f, j]; rfl
                  refine regv_skip (s1 := ?_) ?_ ?_ ?_
                  rotate_left
                  · simp [a, b, d, e, f, j]; done
                  · simp [a, b, d, e, f, j]; rfl
                  iterate 2
                    refine regv_pure (s1 := ?_) rfl rfl ?_ ?_ ?_
                    rotate_left
                    · simp [a, b, d, e, f, j]; rfl
                    · first | (simp [a, b, d, e, f, j] <;> omega) | (have hq := j; simp at hq; simp [a, b, d, e, f, j, hq]; done) | skip
                  refine regv_skip (s1 := ?_) ?_ ?_ ?_
                  rotate_left
                  · simp [a, b, d, e, f, j]; done
                  · simp [a, b, d, e, f, j]; rfl
                  refine regv_skip (s1 := ?_) ?_ ?_ ?_
                  rotate_left
                  · simp [a, b, d, e, f, j]; done
                  · simp [a, b, d, e, f, j]; rfl
                  refine regv_skip (s1 := ?_) ?_ ?_ ?_
                  rotate_left
                  · simp [a, b, d, e, f, j]; done
                  · simp [a, b, d, e, f, j]; rfl
                  iterate 2
                    refine regv_pure (s1 := ?_) rfl rfl ?_ ?_ ?_
                    rotate_left
                    · simp [a, b, d, e, f, j]; rfl
                    · first | (simp [a, b, d, e, f, j] <;> omega) | (have hq := j; simp at hq; simp [a, b, d, e, f, j, hq]; done) | skip
                  refine regv_nil ?_
                  cases h
                  refine Wp.ret (endQ_ret0 rfl ?_)
                  repeat' first | exact All2.nil | refine All2.cons ?_ ?_ | refine AvLe.tups ?_ | refine AvLe.aggs ?_
                  all_goals first
                    | (exact AvLe.refl _ rfl)
                    | (exact AvLe.nil _)
                    | (exact AvLe.znil _)
                    | (exact AvLe.ghost _ rfl)
                    | (exact AvLe.zghost _ rfl)
                    | (exact AvLe.sl' rfl (by simp [a, b, d, e, f, j]; done) (by simp [a, b, d, e, f, j]; done))
                    | (exact AvLe.frz' rfl rfl rfl (by simp [a, b, d, e, f, j]; done) (by simp [a, b, d, e, f, j]; done) (by simp [a, b, d, e, f, j]; done))
                    | (exact AvLe.list' (by simp [a, b, d, e, f, j]; done) (by simp [a, b, d, e, f, j]; done))
                    | (exact AvLe.eq (by simp [a, b, d, e, f, j]; done) rfl)
                · rw [j, if_pos rfl] at h
                  refine regv_pure (s1 := ?_) rfl ?_ ?_ ?_ ?_
                  rotate_left
                  · simp [a, b, d, e, f, j]; done
                  · simp [a, b, d, e, f, j]; rfl
                  · first | (simp [a, b, d, e, f, j] <;> omega) | (have hq := j; simp at hq; simp [a, b, d, e, f, j, hq]; done) | skip
                  refine regv_pure (s1 := ?_) rfl ?_ ?_ ?_ ?_
                  rotate_left
                  · simp [a, b, d, e, f, j]; done
                  · simp [a, b, d, e, f, j]; rfl
                  · first | (simp [a, b, d, e, f, j] <;> omega) | (have hq := j; simp at hq; simp [a, b, d, e, f, j, hq]; done) | skip
                  iterate 2
                    refine regv_pure (s1 := ?_) rfl rfl ?_ ?_ ?_
                    rotate_left
                    · simp [a, b, d, e, f, j]; rfl
                    · first | (simp [a, b, d, e, f, j] <;> omega) | (have hq := j; simp at hq; simp [a, b, d, e, f, j, hq]; done) | skip
                  cases ab : (cd == 0)
                  · rw [ab, if_neg (by simp)] at h
                    refine regv_skip (s1 := ?_) ?_ ?_ ?_
                    rotate_left
                    · simp [a, b, d, e, f, j, ab]; done
                    · simp [a, b, d, e, f, j, ab]; rfl
                    refine regv_skip (s1 := ?_) ?_ ?_ ?_
                    rotate_left
                    · simp [a, b, d, e, f, j, ab]; done
                    · simp [a, b, d, e, f, j, ab]; rfl
                    iterate 2
                      refine regv_pure (s1 := ?_) rfl rfl ?_ ?_ ?_
                      rotate_left
                      · simp [a, b, d, e, f, j, ab]; rfl
                      · first | (simp [a, b, d, e, f, j, ab] <;> omega) | (have hq := ab; simp at hq; simp [a, b, d, e, f, j, ab, hq]; done) | skip
                    refine regv_skip (s1 := ?_) ?_ ?_ ?_
                    rotate_left
                    · simp [a, b, d, e, f, j, ab]; done
                    · simp [a, b, d, e, f, j, ab]; rfl
                    refine regv_skip (s1 := ?_) ?_ ?_ ?_
                    rotate_left
                    · simp [a, b, d, e, f, j, ab]; done
                    · simp [a, b, d, e, f, j, ab]; rfl
                    refine regv_skip (s1 := ?_) ?_ ?_ ?_
                    rotate_left
                    · simp [a, b, d, e, f, j, ab]; done
                    · simp [a, b, d, e, f, j, ab]; rfl
                    iterate 2
                      refine regv_pure (s1 := ?_) rfl rfl ?_ ?_ ?_
                      rotate_left
                      · simp [a, b, d, e, f, j, ab]; rfl
                      · first | (simp [a, b, d, e, f, j, ab] <;> omega) | (have hq := ab; simp at hq; simp [a, b, d, e, f, j, ab, hq]; done) | skip
                    refine regv_nil ?_
                    cases h
                    refine Wp.ret (endQ_ret0 rfl ?_)
                    repeat' first | exact All2.nil | refine All2.cons ?_ ?_ | refine AvLe.tups ?_ | refine AvLe.aggs ?_
                    all_goals first
                      | (exact AvLe.refl _ rfl)
                      | (exact AvLe.nil _)
                      | (exact AvLe.znil _)
                      | (exact AvLe.ghost _ rfl)
                      | (exact AvLe.zghost _ rfl)
                      | (exact AvLe.sl' rfl (by simp [a, b, d, e, f, j, ab]; done) (by simp [a, b, d, e, f, j, ab]; done))
                      | (exact AvLe.frz' rfl rfl rfl (by simp [a, b, d, e, f, j, ab]; done) (by simp [a, b, d, e, f, j, ab]; done) (by simp [a, b, d, e, f, j, ab]; done))
                      | (exact AvLe.list' (by simp [a, b, d, e, f, j, ab]; done) (by simp [a, b, d, e, f, j, ab]; done))
                      | (exact AvLe.eq (by simp [a, b, d, e, f, j, ab]; done) rfl)
                  · rw [ab, if_pos rfl] at h
                    refine regv_pure (s1 := ?_) rfl ?_ ?_ ?_ ?_
                    rotate_left
                    · simp [a, b, d, e, f, j, ab]; done
                    · simp [a, b, d, e, f, j, ab]; rfl
                    · first | (simp [a, b, d, e, f, j, ab] <;> omega) | (have hq := ab; simp at hq; simp [a, b, d, e, f, j, ab, hq]; done) | skip
                    refine regv_pure (s1 := ?_) rfl ?_ ?_ ?_ ?_
                    rotate_left
                    · simp [a, b, d, e, f, j, ab]; done
                    · simp [a, b, d, e, f, j, ab]; rfl
                    · first | (simp [a, b, d, e, f, j, ab] <;> omega) | (have hq := ab; simp at hq; simp [a, b, d, e, f, j, ab, hq]; done) | skip
                    iterate 2
                      refine regv_pure (s1 := ?_) rfl rfl ?_ ?_ ?_
                      rotate_left
                      · simp [a, b, d, e, f, j, ab]; rfl
                      · first | (simp [a, b, d, e, f, j, ab] <;> omega) | (have hq := ab; simp at hq; simp [a, b, d, e, f, j, ab, hq]; done) | skip
                    cases ap : (ce == 0)
                    · rw [ap, if_neg (by simp)] at h
                      refine regv_skip (s1 := ?_) ?_ ?_ ?_
                      rotate_left
                      · simp [a, b, d, e, f, j, ab, ap]; done
                      · simp [a, b, d, e, f, j, ab, ap]; rfl
                      refine regv_skip (s1 := ?_) ?_ ?_ ?_
                      rotate_left
                      · simp [a, b, d, e, f, j, ab, ap]; done
                      · simp [a, b, d, e, f, j, ab, ap]; rfl
                      refine regv_skip (s1 := ?_) ?_ ?_ ?_
                      rotate_left
                      · simp [a, b, d, e, f, j, ab, ap]; done
                      · simp [a, b, d, e, f, j, ab, ap]; rfl
                      iterate 2
                        refine regv_pure (s1 := ?_) rfl rfl ?_ ?_ ?_
                        rotate_left
                        · simp [a, b, d, e, f, j, ab, ap]; rfl
                        · first | (simp [a, b, d, e, f, j, ab, ap] <;> omega) | (have hq := ap; simp at hq; simp [a, b, d, e, f, j, ab, ap, hq]; done) | skip
                      refine regv_nil ?_
                      cases h
                      refine Wp.ret (endQ_ret0 rfl ?_)
                      repeat' first | exact All2.nil | refine All2.cons ?_ ?_ | refine AvLe.tups ?_ | refine AvLe.aggs ?_
                      all_goals first
                        | (exact AvLe.refl _ rfl)
                        | (exact AvLe.nil _)
                        | (exact AvLe.znil _)
                        | (exact AvLe.ghost _ rfl)
                        | (exact AvLe.zghost _ rfl)
                        | (exact AvLe.sl' rfl (by simp [a, b, d, e, f, j, ab, ap]; done) (by simp [a, b, d, e, f, j, ab, ap]; done))
                        | (exact AvLe.frz' rfl rfl rfl (by simp [a, b, d, e, f, j, ab, ap]; done) (by simp [a, b, d, e, f, j, ab, ap]; done) (by simp [a, b, d, e, f, j, ab, ap]; done))
                        | (exact AvLe.list' (by simp [a, b, d, e, f, j, ab, ap]; done) (by simp [a, b, d, e, f, j, ab, ap]; done))
                        | (exact AvLe.eq (by simp [a, b, d, e, f, j, ab, ap]; done) rfl)
                    · rw [ap, if_pos rfl] at h
                      refine regv_pure (s1 := ?_) rfl ?_ ?_ ?_ ?_
                      rotate_left
                      · simp [a, b, d, e, f, j, ab, ap]; done
                      · simp [a, b, d, e, f, j, ab, ap]; rfl
                      · first | (simp [a, b, d, e, f, j, ab, ap] <;> omega) | (have hq := ap; simp at hq; simp [a, b, d, e, f, j, ab, ap, hq]; done) | skip
                      refine regv_pure (s1 := ?_) rfl ?_ ?_ ?_ ?_
                      rotate_left
                      · simp [a, b, d, e, f, j, ab, ap]; done
                      · simp [a, b, d, e, f, j, ab, ap]; rfl
                      · first | (simp [a, b, d, e, f, j, ab, ap] <;> omega) | (have hq := ap; simp at hq; simp [a, b, d, e, f, j, ab, ap, hq]; done) | skip
                      obtain ⟨cu, bk, h⟩ := obind h
                      refine regv_call2 (s' := ?_) (p := ?_) (con_ref03_Equal bk) rfl rfl rfl rfl ?_ ?_ ?_ ?_ ?_ ?_
                      rotate_left 2
                      · simp [a, b, d, e, f, j, ab, ap]; rfl
                      · first | exact .inl rfl | (refine .inl ?_; simp [a, b, d, e, f, j, ab, ap]; done) | (refine .inr ?_; dsimp only; repeat' first | exact All2.nil | refine All2.cons ?_ ?_) <;> first | exact AvLe.refl _ rfl | exact AvLe.nil _ | exact AvLe.znil _ | exact AvLe.list' (by simp [a, b, d, e, f, j, ab, ap]; done) (by simp [a, b, d, e, f, j, ab, ap]; done) | exact AvLe.eq (by simp [a, b, d, e, f, j, ab, ap]; done) rfl
                      · first | (simp [a, b, d, e, f, j, ab, ap] <;> omega) | (have hq := ap; simp at hq; simp [a, b, d, e, f, j, ab, ap, hq]; done) | skip
                      · simp
                      · simp [a, b, d, e, f, j, ab, ap]; rfl
                      iterate 2
                        refine regv_pure (s1 := ?_) rfl rfl ?_ ?_ ?_
                        rotate_left
                        · simp [a, b, d, e, f, j, ab, ap]; rfl
                        · first | (simp [a, b, d, e, f, j, ab, ap] <;> omega) | (have hq := ap; simp at hq; simp [a, b, d, e, f, j, ab, ap, hq]; done) | skip
                      refine regv_nil ?_
                      cases h
                      refine Wp.ret (endQ_ret0 rfl ?_)
                      repeat' first | exact All2.nil | refine All2.cons ?_ ?_ | refine AvLe.tups ?_ | refine AvLe.aggs ?_
                      all_goals first
                        | (exact AvLe.refl _ rfl)
                        | (exact AvLe.nil _)
                        | (exact AvLe.znil _)
                        | (exact AvLe.ghost _ rfl)
                        | (exact AvLe.zghost _ rfl)
                        | (exact AvLe.sl' rfl (by simp [a, b, d, e, f, j, ab, ap]; done) (by simp [a, b, d, e, f, j, ab, ap]; done))
                        | (exact AvLe.frz' rfl rfl rfl (by simp [a, b, d, e, f, j, ab, ap]; done) (by simp [a, b, d, e, f, j, ab, ap]; done) (by simp [a, b, d, e, f, j, ab, ap]; done))
                        | (exact AvLe.list' (by simp [a, b, d, e, f, j, ab, ap]; done) (by simp [a, b, d, e, f, j, ab, ap]; done))
                        | (exact AvLe.eq (by simp [a, b, d, e, f, j, ab, ap]; done) rfl)
              · skip
                refine Wp.reg_seq (own := fun _ => false) tt_ok ?_
                iterate 4
                  refine regv_pure (s1 := ?_) rfl rfl ?_ ?_ ?_
                  rotate_left
                  · simp [a, b, d, e, f]; rfl
                  · first | (simp [a, b, d, e, f] <;> omega) | (have hq := f; simp at hq; simp [a, b, d, e, f, hq]; done) | skip
                refine regv_nil ?_
                refine Wp.block ?_
                refine Wp.loopF (α := Int) (fun x => law16_RungevalEdgesOnce_S3 n _append0 a1 au ay x) (fun m x => law16_RungevalEdgesOnce_L3 n _append0 a1 au ay m x = some r) (fun _ h => by cases h) ?_ n 0 h ?_
                rotate_left
                · simp only [law16_RungevalEdgesOnce_S3]
                  refine Reloc.mk2 [some 0, some 2] rfl rfl rfl (by decide) ?_ ?_
                  · repeat' first | exact objsLe_nil | refine objsLe_cons ?_ ?_
                    all_goals first
                      | exact trivial
                      | (refine ObjLe.var' rfl rfl ?_ rfl
                         repeat' first | exact All2.nil | refine All2.cons ?_ ?_
                         all_goals first | (exact AvLe.refl _ rfl) | (exact AvLe.sl _ _ _ _ rfl) | (exact AvLe.hptr _ _ _ _ rfl) | (exact AvLe.mp _ _ rfl) | (exact AvLe.nil _) | (exact AvLe.znil _) | (exact AvLe.ghost _ rfl) | (exact AvLe.zghost _ rfl) | (exact AvLe.sl' rfl (by simp [a, b, d, e, f]; done) (by first | (simp [a, b, d, e, f] <;> omega) | omega)) | (exact AvLe.frz2 rfl (by simp) rfl (by simp [a, b, d, e, f]; done) (by simp [a, b, d, e, f]; done) (by simp [a, b, d, e, f]; done)) | (exact AvLe.list' (by simp [a, b, d, e, f]; done) (by simp [a, b, d, e, f]; done)) | (exact AvLe.eq (by simp [a, b, d, e, f]; done) rfl))
                      | (exact ObjLe.map' rfl rfl)
                      | (exact ObjLe.ghost' rfl (by decide))
                      | (exact ObjLe.arr' rfl rfl (by first | (simp [a, b, d, e, f] <;> omega)) (fun _ _ => by first | rfl | (simp [a, b, d, e, f]; done)))
                      | ((simp [a, b, d, e, f]; done))
                  · repeat' first | exact chLe_nil | refine chLe_cons ?_ ?_
                    all_goals first
                      | (exact AvLe.refl _ rfl)
                      | (exact AvLe.sl _ _ _ _ rfl)
                      | (exact AvLe.hptr _ _ _ _ rfl)
                      | (exact AvLe.mp _ _ rfl)
                      | (exact AvLe.nil _)
                      | (exact AvLe.znil _)
                      | (exact AvLe.ghost _ rfl)
                      | (exact AvLe.zghost _ rfl)
                      | (exact AvLe.sl' rfl (by simp [a, b, d, e, f]; done) (by first | (simp [a, b, d, e, f] <;> omega) | omega))
                      | (exact AvLe.frz2 rfl (by simp) rfl (by simp [a, b, d, e, f]; done) (by simp [a, b, d, e, f]; done) (by simp [a, b, d, e, f]; done))
                      | (exact AvLe.list' (by simp [a, b, d, e, f]; done) (by simp [a, b, d, e, f]; done))
                      | (exact AvLe.eq (by simp [a, b, d, e, f]; done) rfl)
                rintro rec_n3 az h
                simp only [law16_RungevalEdgesOnce_S3]
                dsimp only [law16_RungevalEdgesOnce_L3] at h
                refine Wp.reg_seq (own := fun _ => false) tt_ok ?_
                iterate 1
                  refine regv_pure (s1 := ?_) rfl rfl ?_ ?_ ?_
                  rotate_left
                  · simp [a, b, d, e, f]; rfl
                  · first | (simp [a, b, d, e, f] <;> omega) | (have hq := f; simp at hq; simp [a, b, d, e, f, hq]; done) | skip
                refine regv_nil ?_
                refine Wp.seq ?_
                refine (Decidable.em (az < (_append0.Contacts.length : Int))).symm.elim (fun i => ?_) (fun i => ?_)
                · rw [if_neg (by simpa using i)] at h
                  refine Wp.cond false (by first | (simp [a, b, d, e, f, i] <;> omega) | (have hq := i; simp at hq; simp [a, b, d, e, f, i, hq]; done)) (fun h0 => absurd h0 (by decide)) (fun _ => ?_)
                  refine Wp.exit ?_
                  refine next_mk () h ?_
                  refine Reloc.mk2 [some 0, some 1] rfl rfl rfl (by decide) ?_ ?_
                  · repeat' first | exact objsLe_nil | refine objsLe_cons ?_ ?_
                    all_goals first
                      | exact trivial
                      | (refine ObjLe.var' rfl rfl ?_ rfl
                         repeat' first | exact All2.nil | refine All2.cons ?_ ?_
                         all_goals first | (exact AvLe.refl _ rfl) | (exact AvLe.sl _ _ _ _ rfl) | (exact AvLe.hptr _ _ _ _ rfl) | (exact AvLe.mp _ _ rfl) | (exact AvLe.nil _) | (exact AvLe.znil _) | (exact AvLe.ghost _ rfl) | (exact AvLe.zghost _ rfl) | (exact AvLe.sl' rfl (by simp [a, b, d, e, f, i]; done) (by first | (simp [a, b, d, e, f, i] <;> omega) | omega)) | (exact AvLe.frz2 rfl (by simp) rfl (by simp [a, b, d, e, f, i]; done) (by simp [a, b, d, e, f, i]; done) (by simp [a, b, d, e, f, i]; done)) | (exact AvLe.list' (by simp [a, b, d, e, f, i]; done) (by simp [a, b, d, e, f, i]; done)) | (exact AvLe.eq (by simp [a, b, d, e, f, i]; done) rfl))
                      | (exact ObjLe.map' rfl rfl)
                      | (exact ObjLe.ghost' rfl (by decide))
                      | (exact ObjLe.arr' rfl rfl (by first | (simp [a, b, d, e, f, i] <;> omega)) (fun _ _ => by first | rfl | (simp [a, b, d, e, f, i]; done)))
                      | ((simp [a, b, d, e, f, i]; done))
                  · repeat' first | exact chLe_nil | refine chLe_cons ?_ ?_
                    all_goals first
                      | (exact AvLe.refl _ rfl)
                      | (exact AvLe.sl _ _ _ _ rfl)
                      | (exact AvLe.hptr _ _ _ _ rfl)
                      | (exact AvLe.mp _ _ rfl)
                      | (exact AvLe.nil _)
                      | (exact AvLe.znil _)
                      | (exact AvLe.ghost _ rfl)
                      | (exact AvLe.zghost _ rfl)
                      | (exact AvLe.sl' rfl (by simp [a, b, d, e, f, i]; done) (by first | (simp [a, b, d, e, f, i] <;> omega) | omega))
                      | (exact AvLe.frz2 rfl (by simp) rfl (by simp [a, b, d, e, f, i]; done) (by simp [a, b, d, e, f, i]; done) (by simp [a, b, d, e, f, i]; done))
                      | (exact AvLe.list' (by simp [a, b, d, e, f, i]; done) (by simp [a, b, d, e, f, i]; done))
                      | (exact AvLe.eq (by simp [a, b, d, e, f, i]; done) rfl)
                · rw [if_pos (decide_eq_true i)] at h
                  refine Wp.cond true (by first | (simp [a, b, d, e, f, i] <;> omega) | (have hq := i; simp at hq; simp [a, b, d, e, f, i, hq]; done)) (fun _ => ?_) (fun h0 => absurd h0 (by decide))
                  refine Wp.skip ?_
                  show Wp _ _ _ _
                  refine Wp.seq ?_
                  refine Wp.block ?_
                  refine Wp.reg_seq (own := fun _ => false) tt_ok ?_
                  iterate 1
                    refine regv_pure (s1 := ?_) rfl rfl ?_ ?_ ?_
                    rotate_left
                    · simp [a, b, d, e, f, i]; rfl
                    · first | (simp [a, b, d, e, f, i] <;> omega) | (have hq := i; simp at hq; simp [a, b, d, e, f, i, hq]; done) | skip
                  obtain ⟨cg, bm, h⟩ := obind h
                  obtain ⟨z, y, v⟩ := atI_some bm
                  try simp [a, b, d, e, f, i] at y
                  try simp only [Int.toNat_natCast, Int.reduceToNat, Nat.zero_add, Nat.add_zero] at v
                  have w := getElem_of v
                  iterate 5
                    refine regv_pure (s1 := ?_) rfl rfl ?_ ?_ ?_
                    rotate_left
                    · simp [a, b, d, e, f, i, z, y, v, w]; rfl
                    · first | (simp [a, b, d, e, f, i, z, y, v, w] <;> omega) | (have hq := w; simp at hq; simp [a, b, d, e, f, i, z, y, v, w, hq]; done) | skip
                  refine regv_nil ?_
                  refine Wp.reg_seq (own := fun _ => false) tt_ok ?_
                  iterate 4
                    refine regv_pure (s1 := ?_) rfl rfl ?_ ?_ ?_
                    rotate_left
                    · simp [a, b, d, e, f, i, z, y, v, w]; rfl
                    · first | (simp [a, b, d, e, f, i, z, y, v, w] <;> omega) | (have hq := w; simp at hq; simp [a, b, d, e, f, i, z, y, v, w, hq]; done) | skip
                  refine (Decidable.em (cg.Kind ≥ 2)).symm.elim (fun aa => ?_) (fun aa => ?_)
                  · rw [if_neg (by simpa using aa)] at h
                    refine regv_skip (s1 := ?_) ?_ ?_ ?_
                    rotate_left
                    · simp [a, b, d, e, f, i, z, y, v, w, aa]; done
                    · simp [a, b, d, e, f, i, z, y, v, w, aa]; rfl
                    refine regv_skip (s1 := ?_) ?_ ?_ ?_
                    rotate_left
                    · simp [a, b, d, e, f, i, z, y, v, w, aa]; done
                    · simp [a, b, d, e, f, i, z, y, v, w, aa]; rfl
                    refine regv_skip (s1 := ?_) ?_ ?_ ?_
                    rotate_left
                    · simp [a, b, d, e, f, i, z, y, v, w, aa]; done
                    · simp [a, b, d, e, f, i, z, y, v, w, aa]; rfl
                    refine regv_skip (s1 := ?_) ?_ ?_ ?_
                    rotate_left
                    · simp [a, b, d, e, f, i, z, y, v, w, aa]; done
                    · simp [a, b, d, e, f, i, z, y, v, w, aa]; rfl
                    iterate 1
                      refine regv_pure (s1 := ?_) rfl rfl ?_ ?_ ?_
                      rotate_left
                      · simp [a, b, d, e, f, i, z, y, v, w, aa]; rfl
                      · first | (simp [a, b, d, e, f, i, z, y, v, w, aa] <;> omega) | (have hq := aa; simp at hq; simp [a, b, d, e, f, i, z, y, v, w, aa, hq]; done) | skip
                    refine regv_nil ?_
                    refine Wp.cond false (by first | (simp [a, b, d, e, f, i, z, y, v, w, aa] <;> omega) | (have hq := aa; simp at hq; simp [a, b, d, e, f, i, z, y, v, w, aa, hq]; done)) (fun h0 => absurd h0 (by decide)) (fun _ => ?_)
                    refine Wp.skip ?_
                    show Wp _ _ _ _
                    refine Wp.reg (own := fun _ => false) tt_ok ?_
                    iterate 2
                      refine regv_pure (s1 := ?_) rfl rfl ?_ ?_ ?_
                      rotate_left
                      · simp [a, b, d, e, f, i, z, y, v, w, aa]; rfl
                      · first | (simp [a, b, d, e, f, i, z, y, v, w, aa] <;> omega) | (have hq := aa; simp at hq; simp [a, b, d, e, f, i, z, y, v, w, aa, hq]; done) | skip
                    refine regv_nil ?_
                    refine next_mk (IntKind.i64.wrap (az + 1)) h ?_
                    refine Reloc.mk2 [some 0, some 1] rfl rfl rfl (by decide) ?_ ?_
                    · repeat' first | exact objsLe_nil | refine objsLe_cons ?_ ?_
                      all_goals first
                        | exact trivial
                        | (refine ObjLe.var' rfl rfl ?_ rfl
                           repeat' first | exact All2.nil | refine All2.cons ?_ ?_
                           all_goals first | (exact AvLe.refl _ rfl) | (exact AvLe.sl _ _ _ _ rfl) | (exact AvLe.hptr _ _ _ _ rfl) | (exact AvLe.mp _ _ rfl) | (exact AvLe.nil _) | (exact AvLe.znil _) | (exact AvLe.ghost _ rfl) | (exact AvLe.zghost _ rfl) | (exact AvLe.sl' rfl (by simp [a, b, d, e, f, i, z, y, v, w, aa]; done) (by first | (simp [a, b, d, e, f, i, z, y, v, w, aa] <;> omega) | omega)) | (exact AvLe.frz2 rfl (by simp) rfl (by simp [a, b, d, e, f, i, z, y, v, w, aa]; done) (by simp [a, b, d, e, f, i, z, y, v, w, aa]; done) (by simp [a, b, d, e, f, i, z, y, v, w, aa]; done)) | (exact AvLe.list' (by simp [a, b, d, e, f, i, z, y, v, w, aa]; done) (by simp [a, b, d, e, f, i, z, y, v, w, aa]; done)) | (exact AvLe.eq (by simp [a, b, d, e, f, i, z, y, v, w, aa]; done) rfl))
                        | (exact ObjLe.map' rfl rfl)
                        | (exact ObjLe.ghost' rfl (by decide))
                        | (exact ObjLe.arr' rfl rfl (by first | (simp [a, b, d, e, f, i, z, y, v, w, aa] <;> omega)) (fun _ _ => by first | rfl | (simp [a, b, d, e, f, i, z, y, v, w, aa]; done)))
                        | ((simp [a, b, d, e, f, i, z, y, v, w, aa]; done))
                    · repeat' first | exact chLe_nil | refine chLe_cons ?_ ?_
                      all_goals first
                        | (exact AvLe.refl _ rfl)
                        | (exact AvLe.sl _ _ _ _ rfl)
                        | (exact AvLe.hptr _ _ _ _ rfl)
                        | (exact AvLe.mp _ _ rfl)
                        | (exact AvLe.nil _)
                        | (exact AvLe.znil _)
                        | (exact AvLe.ghost _ rfl)
                        | (exact AvLe.zghost _ rfl)
                        | (exact AvLe.sl' rfl (by simp [a, b, d, e, f, i, z, y, v, w, aa]; done) (by first | (simp [a, b, d, e, f, i, z, y, v, w, aa] <;> omega) | omega))
                        | (exact AvLe.frz2 rfl (by simp) rfl (by simp [a, b, d, e, f, i, z, y, v, w, aa]; done) (by simp [a, b, d, e, f, i, z, y, v, w, aa]; done) (by simp [a, b, d, e, f, i, z, y, v, w, aa]; done))
                        | (exact AvLe.list' (by simp [a, b, d, e, f, i, z, y, v, w, aa]; done) (by simp [a, b, d, e, f, i, z, y, v, w, aa]; done))
                        | (exact AvLe.eq (by simp [a, b, d, e, f, i, z, y, v, w, aa]; done) rfl)
                  · rw [if_pos (decide_eq_true aa)] at h
                    refine regv_pure (s1 := ?_) rfl ?_ ?_ ?_ ?_
                    rotate_left
                    · simp [a, b, d, e, f, i, z, y, v, w, aa]; done
                    · simp [a, b, d, e, f, i, z, y, v, w, aa]; rfl
                    · first | (simp [a, b, d, e, f, i, z, y, v, w, aa] <;> omega) | (have hq := aa; simp at hq; simp [a, b, d, e, f, i, z, y, v, w, aa, hq]; done) | skip
                    refine regv_pure (s1 := ?_) rfl ?_ ?_ ?_ ?_
                    rotate_left
                    · simp [a, b, d, e, f, i, z, y, v, w, aa]; done
                    · simp [a, b, d, e, f, i, z, y, v, w, aa]; rfl
                    · first | (simp [a, b, d, e, f, i, z, y, v, w, aa] <;> omega) | (have hq := aa; simp at hq; simp [a, b, d, e, f, i, z, y, v, w, aa, hq]; done) | skip
                    obtain ⟨ci, bo, h⟩ := obind h
                    obtain ⟨am, ak, aj⟩ := atI_some bo
                    try simp [a, b, d, e, f, i, z, y, v, w, aa] at ak
                    try simp only [Int.toNat_natCast, Int.reduceToNat, Nat.zero_add, Nat.add_zero] at aj
                    have ag := getElem_of aj
                    refine regv_pure (s1 := ?_) rfl ?_ ?_ ?_ ?_
                    rotate_left
                    · simp [a, b, d, e, f, i, z, y, v, w, aa, am, ak, aj, ag]; done
                    · simp [a, b, d, e, f, i, z, y, v, w, aa, am, ak, aj, ag]; rfl
                    · first | (simp [a, b, d, e, f, i, z, y, v, w, aa, am, ak, aj, ag] <;> omega) | (have hq := ag; simp at hq; simp [a, b, d, e, f, i, z, y, v, w, aa, am, ak, aj, ag, hq]; done) | skip
                    refine regv_pure (s1 := ?_) rfl ?_ ?_ ?_ ?_
                    rotate_left
                    · simp [a, b, d, e, f, i, z, y, v, w, aa, am, ak, aj, ag]; done
                    · simp [a, b, d, e, f, i, z, y, v, w, aa, am, ak, aj, ag]; rfl
                    · first | (simp [a, b, d, e, f, i, z, y, v, w, aa, am, ak, aj, ag] <;> omega) | (have hq := ag; simp at hq; simp [a, b, d, e, f, i, z, y, v, w, aa, am, ak, aj, ag, hq]; done) | skip
                    iterate 1
                      refine regv_pure (s1 := ?_) rfl rfl ?_ ?_ ?_
                      rotate_left
                      · simp [a, b, d, e, f, i, z, y, v, w, aa, am, ak, aj, ag]; rfl
                      · first | (simp [a, b, d, e, f, i, z, y, v, w, aa, am, ak, aj, ag] <;> omega) | (have hq := ag; simp at hq; simp [a, b, d, e, f, i, z, y, v, w, aa, am, ak, aj, ag, hq]; done) | skip
                    refine regv_nil ?_
                    cases aq : ci
                    · rw [aq, if_neg (by simp)] at h
                      refine Wp.cond false (by first | (simp [a, b, d, e, f, i, z, y, v, w, aa, am, ak, aj, ag, aq] <;> omega) | (have hq := aq; simp at hq; simp [a, b, d, e, f, i, z, y, v, w, aa, am, ak, aj, ag, aq, hq]; done)) (fun h0 => absurd h0 (by decide)) (fun _ => ?_)
                      refine Wp.skip ?_
                      show Wp _ _ _ _
                      refine Wp.reg (own := fun _ => false) tt_ok ?_
                      iterate 2
                        refine regv_pure (s1 := ?_) rfl rfl ?_ ?_ ?_
                        rotate_left
                        · simp [a, b, d, e, f, i, z, y, v, w, aa, am, ak, aj, ag, aq]; rfl
                        · first | (simp [a, b, d, e, f, i, z, y, v, w, aa, am, ak, aj, ag, aq] <;> omega) | (have hq := aq; simp at hq; simp [a, b, d, e, f, i, z, y, v, w, aa, am, ak, aj, ag, aq, hq]; done) | skip
                      refine regv_nil ?_
                      refine next_mk (IntKind.i64.wrap (az + 1)) h ?_
                      refine Reloc.mk2 [some 0, some 1] rfl rfl rfl (by decide) ?_ ?_
                      · repeat' first | exact objsLe_nil | refine objsLe_cons ?_ ?_
                        all_goals first
                          | exact trivial
                          | (refine ObjLe.var' rfl rfl ?_ rfl
                             repeat' first | exact All2.nil | refine All2.cons ?_ ?_
                             all_goals first | (exact AvLe.refl _ rfl) | (exact AvLe.sl _ _ _ _ rfl) | (exact AvLe.hptr _ _ _ _ rfl) | (exact AvLe.mp _ _ rfl) | (exact AvLe.nil _) | (exact AvLe.znil _) | (exact AvLe.ghost _ rfl) | (exact AvLe.zghost _ rfl) | (exact AvLe.sl' rfl (by simp [a, b, d, e, f, i, z, y, v, w, aa, am, ak, aj, ag, aq]; done) (by first | (simp [a, b, d, e, f, i, z, y, v, w, aa, am, ak, aj, ag, aq] <;> omega) | omega)) | (exact AvLe.frz2 rfl (by simp) rfl (by simp [a, b, d, e, f, i, z, y, v, w, aa, am, ak, aj, ag, aq]; done) (by simp [a, b, d, e, f, i, z, y, v, w, aa, am, ak, aj, ag, aq]; done) (by simp [a, b, d, e, f, i, z, y, v, w, aa, am, ak, aj, ag, aq]; done)) | (exact AvLe.list' (by simp [a, b, d, e, f, i, z, y, v, w, aa, am, ak, aj, ag, aq]; done) (by simp [a, b, d, e, f, i, z, y, v, w, aa, am, ak, aj, ag, aq]; done)) | (exact AvLe.eq (by simp [a, b, d, e, f, i, z, y, v, w, aa, am, ak, aj, ag, aq]; done) rfl))
                          | (exact ObjLe.map' rfl rfl)
                          | (exact ObjLe.ghost' rfl (by decide))
                          | (exact ObjLe.arr' rfl rfl (by first | (simp [a, b, d, e, f, i, z, y, v, w, aa, am, ak, aj, ag, aq] <;> omega)) (fun _ _ => by first | rfl | (simp [a, b, d, e, f, i, z, y, v, w, aa, am, ak, aj, ag, aq]; done)))
                          | ((simp [a, b, d, e, f, i, z, y, v, w, aa, am, ak, aj, ag, aq]; done))
                      · repeat' first | exact chLe_nil | refine chLe_cons ?_ ?_
                        all_goals first
                          | (exact AvLe.refl _ rfl)
                          | (exact AvLe.sl _ _ _ _ rfl)
                          | (exact AvLe.hptr _ _ _ _ rfl)
                          | (exact AvLe.mp _ _ rfl)
                          | (exact AvLe.nil _)
                          | (exact AvLe.znil _)
                          | (exact AvLe.ghost _ rfl)
                          | (exact AvLe.zghost _ rfl)
                          | (exact AvLe.sl' rfl (by simp [a, b, d, e, f, i, z, y, v, w, aa, am, ak, aj, ag, aq]; done) (by first | (simp [a, b, d, e, f, i, z, y, v, w, aa, am, ak, aj, ag, aq] <;> omega) | omega))
                          | (exact AvLe.frz2 rfl (by simp) rfl (by simp [a, b, d, e, f, i, z, y, v, w, aa, am, ak, aj, ag, aq]; done) (by simp [a, b, d, e, f, i, z, y, v, w, aa, am, ak, aj, ag, aq]; done) (by simp [a, b, d, e, f, i, z, y, v, w, aa, am, ak, aj, ag, aq]; done))
                          | (exact AvLe.list' (by simp [a, b, d, e, f, i, z, y, v, w, aa, am, ak, aj, ag, aq]; done) (by simp [a, b, d, e, f, i, z, y, v, w, aa, am, ak, aj, ag, aq]; done))
                          | (exact AvLe.eq (by simp [a, b, d, e, f, i, z, y, v, w, aa, am, ak, aj, ag, aq]; done) rfl)
                    · rw [aq, if_pos rfl] at h
                      refine Wp.cond true (by first | (simp [a, b, d, e, f, i, z, y, v, w, aa, am, ak, aj, ag, aq] <;> omega) | (have hq := aq; simp at hq; simp [a, b, d, e, f, i, z, y, v, w, aa, am, ak, aj, ag, aq, hq]; done)) (fun _ => ?_) (fun h0 => absurd h0 (by decide))
                      refine Wp.reg_seq (own := fun _ => false) tt_ok ?_
                      iterate 1
                        refine regv_pure (s1 := ?_) rfl rfl ?_ ?_ ?_
                        rotate_left
                        · simp [a, b, d, e, f, i, z, y, v, w, aa, am, ak, aj, ag, aq]; rfl
                        · first | (simp [a, b, d, e, f, i, z, y, v, w, aa, am, ak, aj, ag, aq] <;> omega) | (have hq := aq; simp at hq; simp [a, b, d, e, f, i, z, y, v, w, aa, am, ak, aj, ag, aq, hq]; done) | skip
                      refine regv_nil ?_
                      cases h
                      refine Wp.ret (endQ_ret0 rfl ?_)
                      repeat' first | exact All2.nil | refine All2.cons ?_ ?_ | refine AvLe.tups ?_ | refine AvLe.aggs ?_
                      all_goals first
                        | (exact AvLe.refl _ rfl)
                        | (exact AvLe.nil _)
                        | (exact AvLe.znil _)
                        | (exact AvLe.ghost _ rfl)
                        | (exact AvLe.zghost _ rfl)
                        | (exact AvLe.sl' rfl (by simp [a, b, d, e, f, i, z, y, v, w, aa, am, ak, aj, ag, aq]; done) (by simp [a, b, d, e, f, i, z, y, v, w, aa, am, ak, aj, ag, aq]; done))
                        | (exact AvLe.frz' rfl rfl rfl (by simp [a, b, d, e, f, i, z, y, v, w, aa, am, ak, aj, ag, aq]; done) (by simp [a, b, d, e, f, i, z, y, v, w, aa, am, ak, aj, ag, aq]; done) (by simp [a, b, d, e, f, i, z, y, v, w, aa, am, ak, aj, ag, aq]; done))
                        | (exact AvLe.list' (by simp [a, b, d, e, f, i, z, y, v, w, aa, am, ak, aj, ag, aq]; done) (by simp [a, b, d, e, f, i, z, y, v, w, aa, am, ak, aj, ag, aq]; done))
                        | (exact AvLe.eq (by simp [a, b, d, e, f, i, z, y, v, w, aa, am, ak, aj, ag, aq]; done) rfl)
            · rw [f, if_pos rfl] at h
              refine Wp.cond true (by first | (simp [a, b, d, e, f] <;> omega) | (have hq := f; simp at hq; simp [a, b, d, e, f, hq]; done)) (fun _ => ?_) (fun h0 => absurd h0 (by decide))
              refine Wp.reg_seq (own := fun _ => false) tt_ok ?_
              iterate 1
                refine regv_pure (s1 := ?_) rfl rfl ?_ ?_ ?_
                rotate_left
                · simp [a, b, d, e, f]; rfl
                · first | (simp [a, b, d, e, f] <;> omega) | (have hq := f; simp at hq; simp [a, b, d, e, f, hq]; done) | skip
              refine regv_nil ?_
              cases h
              refine Wp.ret (endQ_ret0 rfl ?_)
              repeat' first | exact All2.nil | refine All2.cons ?_ ?_ | refine AvLe.tups ?_ | refine AvLe.aggs ?_
              all_goals first
                | (exact AvLe.refl _ rfl)
                | (exact AvLe.nil _)
                | (exact AvLe.znil _)
                | (exact AvLe.ghost _ rfl)
                | (exact AvLe.zghost _ rfl)
                | (exact AvLe.sl' rfl (by simp [a, b, d, e, f]; done) (by simp [a, b, d, e, f]; done))
                | (exact AvLe.frz' rfl rfl rfl (by simp [a, b, d, e, f]; done) (by simp [a, b, d, e, f]; done) (by simp [a, b, d, e, f]; done))
                | (exact AvLe.list' (by simp [a, b, d, e, f]; done) (by simp [a, b, d, e, f]; done))
                | (exact AvLe.eq (by simp [a, b, d, e, f]; done) rfl)
          · rw [e, if_pos rfl] at h
            refine regv_skip (s1 := ?_) ?_ ?_ ?_
            rotate_left
            · simp [a, b, d, e]; done
            · simp [a, b, d, e]; rfl
            refine regv_skip (s1 := ?_) ?_ ?_ ?_
            rotate_left
            · simp [a, b, d, e]; done
            · simp [a, b, d, e]; rfl
            refine regv_skip (s1 := ?_) ?_ ?_ ?_
            rotate_left
            · simp [a, b, d, e]; done
            · simp [a, b, d, e]; rfl
            refine regv_skip (s1 := ?_) ?_ ?_ ?_
            rotate_left
            · simp [a, b, d, e]; done
            · simp [a, b, d, e]; rfl
            refine regv_skip (s1 := ?_) ?_ ?_ ?_
            rotate_left
            · simp [a, b, d, e]; done
            · simp [a, b, d, e]; rfl
            refine regv_skip (s1 := ?_) ?_ ?_ ?_
            rotate_left
            · simp [a, b, d, e]; done
            · simp [a, b, d, e]; rfl
            iterate 1
              refine regv_pure (s1 := ?_) rfl rfl ?_ ?_ ?_
              rotate_left
              · simp [a, b, d, e]; rfl
              · first | (simp [a, b, d, e] <;> omega) | (have hq := e; simp at hq; simp [a, b, d, e, hq]; done) | skip
            refine regv_nil ?_
            refine Wp.cond true (by first | (simp [a, b, d, e] <;> omega) | (have hq := e; simp at hq; simp [a, b, d, e, hq]; done)) (fun _ => ?_) (fun h0 => absurd h0 (by decide))
            refine Wp.reg_seq (own := fun _ => false) tt_ok ?_
            iterate 1
              refine regv_pure (s1 := ?_) rfl rfl ?_ ?_ ?_
              rotate_left
              · simp [a, b, d, e]; rfl
              · first | (simp [a, b, d, e] <;> omega) | (have hq := e; simp at hq; simp [a, b, d, e, hq]; done) | skip
            refine regv_nil ?_
            cases h
            refine Wp.ret (endQ_ret0 rfl ?_)
            repeat' first | exact All2.nil | refine All2.cons ?_ ?_ | refine AvLe.tups ?_ | refine AvLe.aggs ?_
            all_goals first
              | (exact AvLe.refl _ rfl)
              | (exact AvLe.nil _)
              | (exact AvLe.znil _)
              | (exact AvLe.ghost _ rfl)
              | (exact AvLe.zghost _ rfl)
              | (exact AvLe.sl' rfl (by simp [a, b, d, e]; done) (by simp [a, b, d, e]; done))
              | (exact AvLe.frz' rfl rfl rfl (by simp [a, b, d, e]; done) (by simp [a, b, d, e]; done) (by simp [a, b, d, e]; done))
              | (exact AvLe.list' (by simp [a, b, d, e]; done) (by simp [a, b, d, e]; done))
              | (exact AvLe.eq (by simp [a, b, d, e]; done) rfl)
        · rw [d, if_pos rfl] at h
          refine regv_skip (s1 := ?_) ?_ ?_ ?_
          rotate_left
          · simp [a, b, d]; done
          · simp [a, b, d]; rfl
          refine regv_skip (s1 := ?_) ?_ ?_ ?_
          rotate_left
          · simp [a, b, d]; done
          · simp [a, b, d]; rfl
          refine regv_skip (s1 := ?_) ?_ ?_ ?_
          rotate_left
          · simp [a, b, d]; done
          · simp [a, b, d]; rfl
          refine regv_skip (s1 := ?_) ?_ ?_ ?_
          rotate_left
          · simp [a, b, d]; done
          · simp [a, b, d]; rfl
          iterate 2
            refine regv_pure (s1 := ?_) rfl rfl ?_ ?_ ?_
            rotate_left
            · simp [a, b, d]; rfl
            · first | (simp [a, b, d] <;> omega) | (have hq := d; simp at hq; simp [a, b, d, hq]; done) | skip
          refine regv_skip (s1 := ?_) ?_ ?_ ?_
          rotate_left
          · simp [a, b, d]; done
          · simp [a, b, d]; rfl
          refine regv_skip (s1 := ?_) ?_ ?_ ?_
          rotate_left
          · simp [a, b, d]; done
          · simp [a, b, d]; rfl
          refine regv_skip (s1 := ?_) ?_ ?_ ?_
          rotate_left
          · simp [a, b, d]; done
          · simp [a, b, d]; rfl
          refine regv_skip (s1 := ?_) ?_ ?_ ?_
          rotate_left
          · simp [a, b, d]; done
          · simp [a, b, d]; rfl
          refine regv_skip (s1 := ?_) ?_ ?_ ?_
          rotate_left
          · simp [a, b, d]; done
          · simp [a, b, d]; rfl
          refine regv_skip (s1 := ?_) ?_ ?_ ?_
          rotate_left
          · simp [a, b, d]; done
          · simp [a, b, d]; rfl
          iterate 1
            refine regv_pure (s1 := ?_) rfl rfl ?_ ?_ ?_
            rotate_left
            · simp [a, b, d]; rfl
            · first | (simp [a, b, d] <;> omega) | (have hq := d; simp at hq; simp [a, b, d, hq]; done) | skip
          refine regv_nil ?_
          refine Wp.cond true (by first | (simp [a, b, d] <;> omega) | (have hq := d; simp at hq; simp [a, b, d, hq]; done)) (fun _ => ?_) (fun h0 => absurd h0 (by decide))
          refine Wp.reg_seq (own := fun _ => false) tt_ok ?_
          iterate 1
            refine regv_pure (s1 := ?_) rfl rfl ?_ ?_ ?_
            rotate_left
            · simp [a, b, d]; rfl
            · first | (simp [a, b, d] <;> omega) | (have hq := d; simp at hq; simp [a, b, d, hq]; done) | skip
          refine regv_nil ?_
          cases h
          refine Wp.ret (endQ_ret0 rfl ?_)
          repeat' first | exact All2.nil | refine All2.cons ?_ ?_ | refine AvLe.tups ?_ | refine AvLe.aggs ?_
          all_goals first
            | (exact AvLe.refl _ rfl)
            | (exact AvLe.nil _)
            | (exact AvLe.znil _)
            | (exact AvLe.ghost _ rfl)
            | (exact AvLe.zghost _ rfl)
            | (exact AvLe.sl' rfl (by simp [a, b, d]; done) (by simp [a, b, d]; done))
            | (exact AvLe.frz' rfl rfl rfl (by simp [a, b, d]; done) (by simp [a, b, d]; done) (by simp [a, b, d]; done))
            | (exact AvLe.list' (by simp [a, b, d]; done) (by simp [a, b, d]; done))
            | (exact AvLe.eq (by simp [a, b, d]; done) rfl)
      · rw [b, if_pos rfl] at h
        refine Wp.cond true (by first | (simp [a, b] <;> omega) | (have hq := b; simp at hq; simp [a, b, hq]; done)) (fun _ => ?_) (fun h0 => absurd h0 (by decide))
        refine Wp.reg_seq (own := fun _ => false) tt_ok ?_
        obtain ⟨cv, bp, h⟩ := obind h
        refine regv_call2 (s' := ?_) (p := ?_) (con_law16_alive bp) rfl rfl rfl rfl ?_ ?_ ?_ ?_ ?_ ?_
        rotate_left 2
        · simp [a, b]; rfl
        · first | exact .inl rfl | (refine .inl ?_; simp [a, b]; done) | (refine .inr ?_; dsimp only; repeat' first | exact All2.nil | refine All2.cons ?_ ?_) <;> first | exact AvLe.refl _ rfl | exact AvLe.nil _ | exact AvLe.znil _ | exact AvLe.list' (by simp [a, b]; done) (by simp [a, b]; done) | exact AvLe.eq (by simp [a, b]; done) rfl
        · first | (simp [a, b] <;> omega) | (have hq := b; simp at hq; simp [a, b, hq]; done) | skip
        · simp
        · simp [a, b]; rfl
        iterate 1
          refine regv_pure (s1 := ?_) rfl rfl ?_ ?_ ?_
          rotate_left
          · simp [a, b]; rfl
          · first | (simp [a, b] <;> omega) | (have hq := b; simp at hq; simp [a, b, hq]; done) | skip
        refine regv_nil ?_
        cases h
        refine Wp.ret (endQ_ret0 rfl ?_)
        repeat' first | exact All2.nil | refine All2.cons ?_ ?_ | refine AvLe.tups ?_ | refine AvLe.aggs ?_
        all_goals first
          | (exact AvLe.refl _ rfl)
          | (exact AvLe.nil _)
          | (exact AvLe.znil _)
          | (exact AvLe.ghost _ rfl)
          | (exact AvLe.zghost _ rfl)
          | (exact AvLe.sl' rfl (by simp [a, b]; done) (by simp [a, b]; done))
          | (exact AvLe.frz' rfl rfl rfl (by simp [a, b]; done) (by simp [a, b]; done) (by simp [a, b]; done))
          | (exact AvLe.list' (by simp [a, b]; done) (by simp [a, b]; done))
          | (exact AvLe.eq (by simp [a, b]; done) rfl)
    · skip
      refine Wp.reg_seq (own := fun _ => false) tt_ok ?_
      iterate 4
        refine regv_pure (s1 := ?_) rfl rfl ?_ ?_ ?_
        rotate_left
        · simp [a]; rfl
        · first | (simp [a] <;> omega) | (have hq := a; simp at hq; simp [a, hq]; done) | skip
      refine regv_nil ?_
      refine Wp.block ?_
      refine Wp.loopF (α := Int) (fun x => law16_RungevalEdgesOnce_S4 n _append0 a1 a2 x) (fun m x => law16_RungevalEdgesOnce_L4 n _append0 a1 a2 m x = some r) (fun _ h => by cases h) ?_ n 0 h ?_
      rotate_left
      · simp only [law16_RungevalEdgesOnce_S4]
        refine Reloc.mk2 [some 0, some 1] rfl rfl rfl (by decide) ?_ ?_
        · repeat' first | exact objsLe_nil | refine objsLe_cons ?_ ?_
          all_goals first
            | exact trivial
            | (refine ObjLe.var' rfl rfl ?_ rfl
               repeat' first | exact All2.nil | refine All2.cons ?_ ?_
               all_goals first | (exact AvLe.refl _ rfl) | (exact AvLe.sl _ _ _ _ rfl) | (exact AvLe.hptr _ _ _ _ rfl) | (exact AvLe.mp _ _ rfl) | (exact AvLe.nil _) | (exact AvLe.znil _) | (exact AvLe.ghost _ rfl) | (exact AvLe.zghost _ rfl) | (exact AvLe.sl' rfl (by simp [a]; done) (by first | (simp [a] <;> omega) | omega)) | (exact AvLe.frz2 rfl (by simp) rfl (by simp [a]; done) (by simp [a]; done) (by simp [a]; done)) | (exact AvLe.list' (by simp [a]; done) (by simp [a]; done)) | (exact AvLe.eq (by simp [a]; done) rfl))
            | (exact ObjLe.map' rfl rfl)
            | (exact ObjLe.ghost' rfl (by decide))
            | (exact ObjLe.arr' rfl rfl (by first | (simp [a] <;> omega)) (fun _ _ => by first | rfl | (simp [a]; done)))
            | ((simp [a]; done))
        · repeat' first | exact chLe_nil | refine chLe_cons ?_ ?_
          all_goals first
            | (exact AvLe.refl _ rfl)
            | (exact AvLe.sl _ _ _ _ rfl)
            | (exact AvLe.hptr _ _ _ _ rfl)
            | (exact AvLe.mp _ _ rfl)
            | (exact AvLe.nil _)
            | (exact AvLe.znil _)
            | (exact AvLe.ghost _ rfl)
            | (exact AvLe.zghost _ rfl)
            | (exact AvLe.sl' rfl (by simp [a]; done) (by first | (simp [a] <;> omega) | omega))
            | (exact AvLe.frz2 rfl (by simp) rfl (by simp [a]; done) (by simp [a]; done) (by simp [a]; done))
            | (exact AvLe.list' (by simp [a]; done) (by simp [a]; done))
            | (exact AvLe.eq (by simp [a]; done) rfl)
      rintro rec_n4 aw h
      simp only [law16_RungevalEdgesOnce_S4]
      dsimp only [law16_RungevalEdgesOnce_L4] at h
      refine Wp.reg_seq (own := fun _ => false) tt_ok ?_
      iterate 1
        refine regv_pure (s1 := ?_) rfl rfl ?_ ?_ ?_
        rotate_left
        · simp [a]; rfl
        · first | (simp [a] <;> omega) | (have hq := a; simp at hq; simp [a, hq]; done) | skip
      refine regv_nil ?_
      refine Wp.seq ?_
      refine (Decidable.em (aw < (_append0.Contacts.length : Int))).symm.elim (fun g => ?_) (fun g => ?_)
      · rw [if_neg (by simpa using g)] at h
        refine Wp.cond false (by first | (simp [a, g] <;> omega) | (have hq := g; simp at hq; simp [a, g, hq]; done)) (fun h0 => absurd h0 (by decide)) (fun _ => ?_)
        refine Wp.exit ?_
        refine next_mk () h ?_
        refine Reloc.mk2 [some 0, some 1] rfl rfl rfl (by decide) ?_ ?_
        · repeat' first | exact objsLe_nil | refine objsLe_cons ?_ ?_
          all_goals first
            | exact trivial
            | (refine ObjLe.var' rfl rfl ?_ rfl
               repeat' first | exact All2.nil | refine All2.cons ?_ ?_
               all_goals first | (exact AvLe.refl _ rfl) | (exact AvLe.sl _ _ _ _ rfl) | (exact AvLe.hptr _ _ _ _ rfl) | (exact AvLe.mp _ _ rfl) | (exact AvLe.nil _) | (exact AvLe.znil _) | (exact AvLe.ghost _ rfl) | (exact AvLe.zghost _ rfl) | (exact AvLe.sl' rfl (by simp [a, g]; done) (by first | (simp [a, g] <;> omega) | omega)) | (exact AvLe.frz2 rfl (by simp) rfl (by simp [a, g]; done) (by simp [a, g]; done) (by simp [a, g]; done)) | (exact AvLe.list' (by simp [a, g]; done) (by simp [a, g]; done)) | (exact AvLe.eq (by simp [a, g]; done) rfl))
            | (exact ObjLe.map' rfl rfl)
            | (exact ObjLe.ghost' rfl (by decide))
            | (exact ObjLe.arr' rfl rfl (by first | (simp [a, g] <;> omega)) (fun _ _ => by first | rfl | (simp [a, g]; done)))
            | ((simp [a, g]; done))
        · repeat' first | exact chLe_nil | refine chLe_cons ?_ ?_
          all_goals first
            | (exact AvLe.refl _ rfl)
            | (exact AvLe.sl _ _ _ _ rfl)
            | (exact AvLe.hptr _ _ _ _ rfl)
            | (exact AvLe.mp _ _ rfl)
            | (exact AvLe.nil _)
            | (exact AvLe.znil _)
            | (exact AvLe.ghost _ rfl)
            | (exact AvLe.zghost _ rfl)
            | (exact AvLe.sl' rfl (by simp [a, g]; done) (by first | (simp [a, g] <;> omega) | omega))
            | (exact AvLe.frz2 rfl (by simp) rfl (by simp [a, g]; done) (by simp [a, g]; done) (by simp [a, g]; done))
            | (exact AvLe.list' (by simp [a, g]; done) (by simp [a, g]; done))
            | (exact AvLe.eq (by simp [a, g]; done) rfl)
      · rw [if_pos (decide_eq_true g)] at h
        refine Wp.cond true (by first | (simp [a, g] <;> omega) | (have hq := g; simp at hq; simp [a, g, hq]; done)) (fun _ => ?_) (fun h0 => absurd h0 (by decide))
        refine Wp.skip ?_
        show Wp _ _ _ _
        refine Wp.seq ?_
        refine Wp.block ?_
        refine Wp.reg_seq (own := fun _ => false) tt_ok ?_
        obtain ⟨av, bq, h⟩ := obind h
        obtain ⟨u, q, o⟩ := atI_some bq
        try simp [a, g] at q
        try simp only [Int.toNat_natCast, Int.reduceToNat, Nat.zero_add, Nat.add_zero] at o
        have k := getElem_of o
        iterate 4
          refine regv_pure (s1 := ?_) rfl rfl ?_ ?_ ?_
          rotate_left
          · simp [a, g, u, q, o, k]; rfl
          · first | (simp [a, g, u, q, o, k] <;> omega) | (have hq := k; simp at hq; simp [a, g, u, q, o, k, hq]; done) | skip
        refine regv_nil ?_
        refine Wp.reg_seq (own := fun _ => false) tt_ok ?_
        iterate 4
          refine regv_pure (s1 := ?_) rfl rfl ?_ ?_ ?_
          rotate_left
          · simp [a, g, u, q, o, k]; rfl
          · first | (simp [a, g, u, q, o, k] <;> omega) | (have hq := k; simp at hq; simp [a, g, u, q, o, k, hq]; done) | skip
        refine regv_nil ?_
        refine Wp.block ?_
        refine Wp.loopF (α := Int) (fun x => law16_RungevalEdgesOnce_S5 n _append0 a1 a2 aw av x) (fun m x => law16_RungevalEdgesOnce_L5 n _append0 aw (law16_RungevalEdgesOnce_L4 n _append0 a1 a2 rec_n4) av m x = some r) (fun _ h => by cases h) ?_ n 0 h ?_
        rotate_left
        · simp only [law16_RungevalEdgesOnce_S5]
          refine Reloc.mk2 [some 0, some 1, some 2] rfl rfl rfl (by decide) ?_ ?_
          · repeat' first | exact objsLe_nil | refine objsLe_cons ?_ ?_
            all_goals first
              | exact trivial
              | (refine ObjLe.var' rfl rfl ?_ rfl
                 repeat' first | exact All2.nil | refine All2.cons ?_ ?_
                 all_goals first | (exact AvLe.refl _ rfl) | (exact AvLe.sl _ _ _ _ rfl) | (exact AvLe.hptr _ _ _ _ rfl) | (exact AvLe.mp _ _ rfl) | (exact AvLe.nil _) | (exact AvLe.znil _) | (exact AvLe.ghost _ rfl) | (exact AvLe.zghost _ rfl) | (exact AvLe.sl' rfl (by simp [a, g, u, q, o, k]; done) (by first | (simp [a, g, u, q, o, k] <;> omega) | omega)) | (exact AvLe.frz2 rfl (by simp) rfl (by simp [a, g, u, q, o, k]; done) (by simp [a, g, u, q, o, k]; done) (by simp [a, g, u, q, o, k]; done)) | (exact AvLe.list' (by simp [a, g, u, q, o, k]; done) (by simp [a, g, u, q, o, k]; done)) | (exact AvLe.eq (by simp [a, g, u, q, o, k]; done) rfl))
              | (exact ObjLe.map' rfl rfl)
              | (exact ObjLe.ghost' rfl (by decide))
              | (exact ObjLe.arr' rfl rfl (by first | (simp [a, g, u, q, o, k] <;> omega)) (fun _ _ => by first | rfl | (simp [a, g, u, q, o, k]; done)))
              | ((simp [a, g, u, q, o, k]; done))
          · repeat' first | exact chLe_nil | refine chLe_cons ?_ ?_
            all_goals first
              | (exact AvLe.refl _ rfl)
              | (exact AvLe.sl _ _ _ _ rfl)
              | (exact AvLe.hptr _ _ _ _ rfl)
              | (exact AvLe.mp _ _ rfl)
              | (exact AvLe.nil _)
              | (exact AvLe.znil _)
              | (exact AvLe.ghost _ rfl)
              | (exact AvLe.zghost _ rfl)
              | (exact AvLe.sl' rfl (by simp [a, g, u, q, o, k]; done) (by first | (simp [a, g, u, q, o, k] <;> omega) | omega))
              | (exact AvLe.frz2 rfl (by simp) rfl (by simp [a, g, u, q, o, k]; done) (by simp [a, g, u, q, o, k]; done) (by simp [a, g, u, q, o, k]; done))
              | (exact AvLe.list' (by simp [a, g, u, q, o, k]; done) (by simp [a, g, u, q, o, k]; done))
              | (exact AvLe.eq (by simp [a, g, u, q, o, k]; done) rfl)
        rintro rec_n5 ba h
        simp only [law16_RungevalEdgesOnce_S5]
        dsimp only [law16_RungevalEdgesOnce_L5] at h
        refine Wp.reg_seq (own := fun _ => false) tt_ok ?_
        iterate 1
          refine regv_pure (s1 := ?_) rfl rfl ?_ ?_ ?_
          rotate_left
          · simp [a, g, u, q, o, k]; rfl
          · first | (simp [a, g, u, q, o, k] <;> omega) | (have hq := k; simp at hq; simp [a, g, u, q, o, k, hq]; done) | skip
        refine regv_nil ?_
        refine Wp.seq ?_
        refine (Decidable.em (ba < (_append0.Coils.length : Int))).symm.elim (fun ac => ?_) (fun ac => ?_)
        · rw [if_neg (by simpa using ac)] at h
          refine Wp.cond false (by first | (simp [a, g, u, q, o, k, ac] <;> omega) | (have hq := ac; simp at hq; simp [a, g, u, q, o, k, ac, hq]; done)) (fun h0 => absurd h0 (by decide)) (fun _ => ?_)
          refine Wp.exit ?_
          show Wp _ _ _ _
          refine Wp.reg (own := fun _ => false) tt_ok ?_
          iterate 2
            refine regv_pure (s1 := ?_) rfl rfl ?_ ?_ ?_
            rotate_left
            · simp [a, g, u, q, o, k, ac]; rfl
            · first | (simp [a, g, u, q, o, k, ac] <;> omega) | (have hq := ac; simp at hq; simp [a, g, u, q, o, k, ac, hq]; done) | skip
          refine regv_nil ?_
          refine next_mk (IntKind.i64.wrap (aw + 1)) h ?_
          refine Reloc.mk2 [some 0, some 1] rfl rfl rfl (by decide) ?_ ?_
          · repeat' first | exact objsLe_nil | refine objsLe_cons ?_ ?_
            all_goals first
              | exact trivial
              | (refine ObjLe.var' rfl rfl ?_ rfl
                 repeat' first | exact All2.nil | refine All2.cons ?_ ?_
                 all_goals first | (exact AvLe.refl _ rfl) | (exact AvLe.sl _ _ _ _ rfl) | (exact AvLe.hptr _ _ _ _ rfl) | (exact AvLe.mp _ _ rfl) | (exact AvLe.nil _) | (exact AvLe.znil _) | (exact AvLe.ghost _ rfl) | (exact AvLe.zghost _ rfl) | (exact AvLe.sl' rfl (by simp [a, g, u, q, o, k, ac]; done) (by first | (simp [a, g, u, q, o, k, ac] <;> omega) | omega)) | (exact AvLe.frz2 rfl (by simp) rfl (by simp [a, g, u, q, o, k, ac]; done) (by simp [a, g, u, q, o, k, ac]; done) (by simp [a, g, u, q, o, k, ac]; done)) | (exact AvLe.list' (by simp [a, g, u, q, o, k, ac]; done) (by simp [a, g, u, q, o, k, ac]; done)) | (exact AvLe.eq (by simp [a, g, u, q, o, k, ac]; done) rfl))
              | (exact ObjLe.map' rfl rfl)
              | (exact ObjLe.ghost' rfl (by decide))
              | (exact ObjLe.arr' rfl rfl (by first | (simp [a, g, u, q, o, k, ac] <;> omega)) (fun _ _ => by first | rfl | (simp [a, g, u, q, o, k, ac]; done)))
              | ((simp [a, g, u, q, o, k, ac]; done))
          · repeat' first | exact chLe_nil | refine chLe_cons ?_ ?_
            all_goals first
              | (exact AvLe.refl _ rfl)
              | (exact AvLe.sl _ _ _ _ rfl)
              | (exact AvLe.hptr _ _ _ _ rfl)
              | (exact AvLe.mp _ _ rfl)
              | (exact AvLe.nil _)
              | (exact AvLe.znil _)
              | (exact AvLe.ghost _ rfl)
              | (exact AvLe.zghost _ rfl)
              | (exact AvLe.sl' rfl (by simp [a, g, u, q, o, k, ac]; done) (by first | (simp [a, g, u, q, o, k, ac] <;> omega) | omega))
              | (exact AvLe.frz2 rfl (by simp) rfl (by simp [a, g, u, q, o, k, ac]; done) (by simp [a, g, u, q, o, k, ac]; done) (by simp [a, g, u, q, o, k, ac]; done))
              | (exact AvLe.list' (by simp [a, g, u, q, o, k, ac]; done) (by simp [a, g, u, q, o, k, ac]; done))
              | (exact AvLe.eq (by simp [a, g, u, q, o, k, ac]; done) rfl)
        · rw [if_pos (decide_eq_true ac)] at h
          refine Wp.cond true (by first | (simp [a, g, u, q, o, k, ac] <;> omega) | (have hq := ac; simp at hq; simp [a, g, u, q, o, k, ac, hq]; done)) (fun _ => ?_) (fun h0 => absurd h0 (by decide))
          refine Wp.skip ?_
          show Wp _ _ _ _
          refine Wp.seq ?_
          refine Wp.block ?_
          refine Wp.reg_seq (own := fun _ => false) tt_ok ?_
          obtain ⟨bb, bu, h⟩ := obind h
          obtain ⟨ai, af, ad⟩ := atI_some bu
          try simp [a, g, u, q, o, k, ac] at af
          try simp only [Int.toNat_natCast, Int.reduceToNat, Nat.zero_add, Nat.add_zero] at ad
          have ae := getElem_of ad
          iterate 4
            refine regv_pure (s1 := ?_) rfl rfl ?_ ?_ ?_
            rotate_left
            · simp [a, g, u, q, o, k, ac, ai, af, ad, ae]; rfl
            · first | (simp [a, g, u, q, o, k, ac, ai, af, ad, ae] <;> omega) | (have hq := ae; simp at hq; simp [a, g, u, q, o, k, ac, ai, af, ad, ae, hq]; done) | skip
          refine regv_nil ?_
          refine Wp.reg_seq (own := fun _ => false) tt_ok ?_
          iterate 5
            refine regv_pure (s1 := ?_) rfl rfl ?_ ?_ ?_
            rotate_left
            · simp [a, g, u, q, o, k, ac, ai, af, ad, ae]; rfl
            · first | (simp [a, g, u, q, o, k, ac, ai, af, ad, ae] <;> omega) | (have hq := ae; simp at hq; simp [a, g, u, q, o, k, ac, ai, af, ad, ae, hq]; done) | skip
          refine regv_nil ?_
          cases ao : ((av.A.Space == bb.A.Space) && (av.A.N == bb.A.N))
          · rw [ao, if_neg (by simp)] at h
            refine Wp.cond false (by first | (simp [a, g, u, q, o, k, ac, ai, af, ad, ae, ao] <;> omega) | (have hq := ao; simp at hq; simp [a, g, u, q, o, k, ac, ai, af, ad, ae, ao, hq]; done)) (fun h0 => absurd h0 (by decide)) (fun _ => ?_)
            refine Wp.skip ?_
            show Wp _ _ _ _
            refine Wp.reg (own := fun _ => false) tt_ok ?_
            iterate 2
              refine regv_pure (s1 := ?_) rfl rfl ?_ ?_ ?_
              rotate_left
              · simp [a, g, u, q, o, k, ac, ai, af, ad, ae, ao]; rfl
              · first | (simp [a, g, u, q, o, k, ac, ai, af, ad, ae, ao] <;> omega) | (have hq := ao; simp at hq; simp [a, g, u, q, o, k, ac, ai, af, ad, ae, ao, hq]; done) | skip
            refine regv_nil ?_
            refine next_mk (IntKind.i64.wrap (ba + 1)) h ?_
            refine Reloc.mk2 [some 0, some 1, some 2] rfl rfl rfl (by decide) ?_ ?_
            · repeat' first | exact objsLe_nil | refine objsLe_cons ?_ ?_
              all_goals first
                | exact trivial
                | (refine ObjLe.var' rfl rfl ?_ rfl
                   repeat' first | exact All2.nil | refine All2.cons ?_ ?_
                   all_goals first | (exact AvLe.refl _ rfl) | (exact AvLe.sl _ _ _ _ rfl) | (exact AvLe.hptr _ _ _ _ rfl) | (exact AvLe.mp _ _ rfl) | (exact AvLe.nil _) | (exact AvLe.znil _) | (exact AvLe.ghost _ rfl) | (exact AvLe.zghost _ rfl) | (exact AvLe.sl' rfl (by simp [a, g, u, q, o, k, ac, ai, af, ad, ae, ao]; done) (by first | (simp [a, g, u, q, o, k, ac, ai, af, ad, ae, ao] <;> omega) | omega)) | (exact AvLe.frz2 rfl (by simp) rfl (by simp [a, g, u, q, o, k, ac, ai, af, ad, ae, ao]; done) (by simp [a, g, u, q, o, k, ac, ai, af, ad, ae, ao]; done) (by simp [a, g, u, q, o, k, ac, ai, af, ad, ae, ao]; done)) | (exact AvLe.list' (by simp [a, g, u, q, o, k, ac, ai, af, ad, ae, ao]; done) (by simp [a, g, u, q, o, k, ac, ai, af, ad, ae, ao]; done)) | (exact AvLe.eq (by simp [a, g, u, q, o, k, ac, ai, af, ad, ae, ao]; done) rfl))
                | (exact ObjLe.map' rfl rfl)
                | (exact ObjLe.ghost' rfl (by decide))
                | (exact ObjLe.arr' rfl rfl (by first | (simp [a, g, u, q, o, k, ac, ai, af, ad, ae, ao] <;> omega)) (fun _ _ => by first | rfl | (simp [a, g, u, q, o, k, ac, ai, af, ad, ae, ao]; done)))
                | ((simp [a, g, u, q, o, k, ac, ai, af, ad, ae, ao]; done))
            · repeat' first | exact chLe_nil | refine chLe_cons ?_ ?_
              all_goals first
                | (exact AvLe.refl _ rfl)
                | (exact AvLe.sl _ _ _ _ rfl)
                | (exact AvLe.hptr _ _ _ _ rfl)
                | (exact AvLe.mp _ _ rfl)
                | (exact AvLe.nil _)
                | (exact AvLe.znil _)
                | (exact AvLe.ghost _ rfl)
                | (exact AvLe.zghost _ rfl)
                | (exact AvLe.sl' rfl (by simp [a, g, u, q, o, k, ac, ai, af, ad, ae, ao]; done) (by first | (simp [a, g, u, q, o, k, ac, ai, af, ad, ae, ao] <;> omega) | omega))
                | (exact AvLe.frz2 rfl (by simp) rfl (by simp [a, g, u, q, o, k, ac, ai, af, ad, ae, ao]; done) (by simp [a, g, u, q, o, k, ac, ai, af, ad, ae, ao]; done) (by simp [a, g, u, q, o, k, ac, ai, af, ad, ae, ao]; done))
                | (exact AvLe.list' (by simp [a, g, u, q, o, k, ac, ai, af, ad, ae, ao]; done) (by simp [a, g, u, q, o, k, ac, ai, af, ad, ae, ao]; done))
                | (exact AvLe.eq (by simp [a, g, u, q, o, k, ac, ai, af, ad, ae, ao]; done) rfl)
          · rw [ao, if_pos rfl] at h
            refine Wp.cond true (by first | (simp [a, g, u, q, o, k, ac, ai, af, ad, ae, ao] <;> omega) | (have hq := ao; simp at hq; simp [a, g, u, q, o, k, ac, ai, af, ad, ae, ao, hq]; done)) (fun _ => ?_) (fun h0 => absurd h0 (by decide))
            refine Wp.reg_seq (own := fun _ => false) tt_ok ?_
            obtain ⟨cw, bv, h⟩ := obind h
            refine regv_call2 (s' := ?_) (p := ?_) (con_law16_alive bv) rfl rfl rfl rfl ?_ ?_ ?_ ?_ ?_ ?_
            rotate_left 2
            · simp [a, g, u, q, o, k, ac, ai, af, ad, ae, ao]; rfl
            · first | exact .inl rfl | (refine .inl ?_; simp [a, g, u, q, o, k, ac, ai, af, ad, ae, ao]; done) | (refine .inr ?_; dsimp only; repeat' first | exact All2.nil | refine All2.cons ?_ ?_) <;> first | exact AvLe.refl _ rfl | exact AvLe.nil _ | exact AvLe.znil _ | exact AvLe.list' (by simp [a, g, u, q, o, k, ac, ai, af, ad, ae, ao]; done) (by simp [a, g, u, q, o, k, ac, ai, af, ad, ae, ao]; done) | exact AvLe.eq (by simp [a, g, u, q, o, k, ac, ai, af, ad, ae, ao]; done) rfl
            · first | (simp [a, g, u, q, o, k, ac, ai, af, ad, ae, ao] <;> omega) | (have hq := ao; simp at hq; simp [a, g, u, q, o, k, ac, ai, af, ad, ae, ao, hq]; done) | skip
            · simp
            · simp [a, g, u, q, o, k, ac, ai, af, ad, ae, ao]; rfl
            iterate 1
              refine regv_pure (s1 := ?_) rfl rfl ?_ ?_ ?_
              rotate_left
              · simp [a, g, u, q, o, k, ac, ai, af, ad, ae, ao]; rfl
              · first | (simp [a, g, u, q, o, k, ac, ai, af, ad, ae, ao] <;> omega) | (have hq := ao; simp at hq; simp [a, g, u, q, o, k, ac, ai, af, ad, ae, ao, hq]; done) | skip
            refine regv_nil ?_
            cases h
            refine Wp.ret (endQ_ret0 rfl ?_)
            repeat' first | exact All2.nil | refine All2.cons ?_ ?_ | refine AvLe.tups ?_ | refine AvLe.aggs ?_
            all_goals first
              | (exact AvLe.refl _ rfl)
              | (exact AvLe.nil _)
              | (exact AvLe.znil _)
              | (exact AvLe.ghost _ rfl)
              | (exact AvLe.zghost _ rfl)
              | (exact AvLe.sl' rfl (by simp [a, g, u, q, o, k, ac, ai, af, ad, ae, ao]; done) (by simp [a, g, u, q, o, k, ac, ai, af, ad, ae, ao]; done))
              | (exact AvLe.frz' rfl rfl rfl (by simp [a, g, u, q, o, k, ac, ai, af, ad, ae, ao]; done) (by simp [a, g, u, q, o, k, ac, ai, af, ad, ae, ao]; done) (by simp [a, g, u, q, o, k, ac, ai, af, ad, ae, ao]; done))
              | (exact AvLe.list' (by simp [a, g, u, q, o, k, ac, ai, af, ad, ae, ao]; done) (by simp [a, g, u, q, o, k, ac, ai, af, ad, ae, ao]; done))
              | (exact AvLe.eq (by simp [a, g, u, q, o, k, ac, ai, af, ad, ae, ao]; done) rfl)
  · rw [a, if_pos rfl] at h
    refine Wp.cond true (by first | (simp [a] <;> omega) | (have hq := a; simp at hq; simp [a, hq]; done)) (fun _ => ?_) (fun h0 => absurd h0 (by decide))
    refine Wp.reg_seq (own := fun _ => false) tt_ok ?_
    obtain ⟨cy, bw, h⟩ := obind h
    refine regv_call2 (s' := ?_) (p := ?_) (con_law16_alive bw) rfl rfl rfl rfl ?_ ?_ ?_ ?_ ?_ ?_
    rotate_left 2
    · simp [a]; rfl
    · first | exact .inl rfl | (refine .inl ?_; simp [a]; done) | (refine .inr ?_; dsimp only; repeat' first | exact All2.nil | refine All2.cons ?_ ?_) <;> first | exact AvLe.refl _ rfl | exact AvLe.nil _ | exact AvLe.znil _ | exact AvLe.list' (by simp [a]; done) (by simp [a]; done) | exact AvLe.eq (by simp [a]; done) rfl
    · first | (simp [a] <;> omega) | (have hq := a; simp at hq; simp [a, hq]; done) | skip
    · simp
    · simp [a]; rfl
    iterate 1
      refine regv_pure (s1 := ?_) rfl rfl ?_ ?_ ?_
      rotate_left
      · simp [a]; rfl
      · first | (simp [a] <;> omega) | (have hq := a; simp at hq; simp [a, hq]; done) | skip
    refine regv_nil ?_
    cases h
    refine Wp.ret (endQ_ret0 rfl ?_)
    repeat' first | exact All2.nil | refine All2.cons ?_ ?_ | refine AvLe.tups ?_ | refine AvLe.aggs ?_
    all_goals first
      | (exact AvLe.refl _ rfl)
      | (exact AvLe.nil _)
      | (exact AvLe.znil _)
      | (exact AvLe.ghost _ rfl)
      | (exact AvLe.zghost _ rfl)
      | (exact AvLe.sl' rfl (by simp [a]; done) (by simp [a]; done))
      | (exact AvLe.frz' rfl rfl rfl (by simp [a]; done) (by simp [a]; done) (by simp [a]; done))
      | (exact AvLe.list' (by simp [a]; done) (by simp [a]; done))
      | (exact AvLe.eq (by simp [a]; done) rfl)

end Go.Proofs.Ytgbgmijighbfbaa

/- Contracts: models of functions are right. No law is proved here. -/
import Derived.Test.YtgbgmijighbfbaaGMod
import Derived.Test.YtgbgmijighbfbaaTab
namespace Go.Proofs.Ytgbgmijighbfbaa
open Go.Av Go.G
attribute [local simp] runf guardA opf St.ev Go.Av.look St.setd constAV constAV0 opBin opLen intBin St.need lookT TT0 tab resA resOne resAll blt_dec ble_dec beq_dec isPure
attribute [local simp] opMakeSlice opCopy opIndexAddr opLoad opStore St.mem St.rows opUn calleeA toArgs toArg toArg0 toArgs0 shift shift0 shift1 splice cellsOf isFree ofCells TS.isAgg isCell strBin opConvert
attribute [local simp] opBuildSlice fillA opAppend eqC eqA cksB ckB St.newBox runI valKind withinB readsHp refsD refs noSl opFieldAddr opBuild placeOf Op.operands Call.operands opIndex opExtract opSlice opField partA
attribute [local simp] loA hiA lenA opMakeMap opLookup opMapUpdate keyOk findA_int findA_str putA_strB putA_strI putA_intB mAV_length mAV_nil
attribute [local simp] aL cI cB cS cL rw_map fz_rw fz_const dropRow_rw fz_append fz_set fz_copy fz_rows rowLen_rw rowsLen_nil rowsLen_cons rowsLen_append rowsLen_map rowsLen_take rowsLen_drop rowsLen_replicate take_map_len take_map_le drop_map_len take_drop_len chunks isScalar isScalar0
attribute [local congr] bind_congr1 map_congr1 cond_congr1
attribute [local simp] cApiAddr cApiContact cApiCoil cApiRung cApiState
set_option maxHeartbeats 4000000
set_option linter.unusedSimpArgs false
set_option linter.unusedVariables false

theorem con_ref03_Clone {n : Nat} {st0 : ApiState} {r : ApiState} (h : ref03_Clone n st0 = some r) : Con Try.prog 15 [.agg (cApiState st0)] (.agg (cApiState r)) [] := by
  refine con_of (T := TT0) tt_ok Try.func15 (c := _) (by unfold Try.f15; rfl) Try.ntmps15 (rs := [.cell 2 36]) (by rw [Try.results15]) (by unfold Try.f15; rfl) (by simp) ?_
  simp only [argsCh]
  dsimp only [ref03_Clone] at h
  refine Wp.reg_seq (own := fun _ => false) tt_ok ?_
  iterate 2
    refine regv_pure (s1 := ?_) rfl rfl ?_ ?_ ?_
    rotate_left
    · simp []; rfl
    · first | (simp [] <;> omega) | skip
  refine regv_nil ?_
  refine Wp.drawn (own := fun _ => false) tt_ok mixed [0] (by decide +kernel) trivial ?_
  refine regI_upto 3 (r := ?_) ?_ ?_ ?_
  rotate_left
  · simp [List.range, List.range.loop]; rfl
  · first | (simp [] <;> omega) | skip
  obtain ⟨a, h⟩ := oguard h
  refine regI_upto 4 (r := ?_) ?_ ?_ ?_
  rotate_left
  · simp [List.range, List.range.loop, a]; rfl
  · first | (simp [a] <;> omega) | (have hq := a; simp at hq; simp [a, hq]; done) | skip
  obtain ⟨b, h⟩ := oguard h
  refine regI_upto 4 (r := ?_) ?_ ?_ ?_
  rotate_left
  · simp [List.range, List.range.loop, a, b]; rfl
  · first | (simp [a, b] <;> omega) | (have hq := b; simp at hq; simp [a, b, hq]; done) | skip
  obtain ⟨d, h⟩ := oguard h
  refine regI_upto 2 (r := ?_) ?_ ?_ ?_
  rotate_left
  · simp [List.range, List.range.loop, a, b, d]; rfl
  · first | (simp [a, b, d] <;> omega) | (have hq := d; simp at hq; simp [a, b, d, hq]; done) | skip
  refine regI_bar (r := ?_) tt_ok rfl rfl rfl rfl ?_ ?_ ?_
  rotate_left
  · simp [a, b, d]; rfl
  · first | (simp [a, b, d] <;> omega) | (have hq := d; simp at hq; simp [a, b, d, hq]; done) | skip
  refine regI_nil ?_
  cases h
  refine Wp.ret (endQ_ret0 rfl ?_)
  repeat' first | exact All2.nil | refine All2.cons ?_ ?_ | refine AvLe.tups ?_ | refine AvLe.aggs ?_
  all_goals first
    | (exact AvLe.refl _ rfl)
    | (exact AvLe.nil _)
    | (exact AvLe.znil _)
    | (exact AvLe.ghost _ rfl)
    | (exact AvLe.zghost _ rfl)
    | (exact AvLe.sl' rfl (by simp [a, b, d]; done) (by simp [a, b, d]; done))
    | (exact AvLe.frz' rfl rfl rfl (by simp [a, b, d]; done) (by simp [a, b, d]; done) (by simp [a, b, d]; done))
    | (exact AvLe.list' (by simp [a, b, d]; done) (by simp [a, b, d]; done))
    | (exact AvLe.eq (by simp [a, b, d]; done) rfl)

theorem con_ref03_Clone_o0_1 {n : Nat} {st0 : ApiState} {r : ApiState} (h : ref03_Clone_o0_1 n st0 = some r) : Con Try.prog 15 [.agg (cApiState st0)] (.agg [.sl 0 0 r.Q.length, .sl 1 0 r.M.length, aL cB r.E]) [.arr 1 r.Q.length (rw (r.Q.map cB)), .arr 1 r.M.length (rw (r.M.map cB))] := by
  refine con_of (T := TT0) tt_ok Try.func15 (c := _) (by unfold Try.f15; rfl) Try.ntmps15 (rs := [.cell 2 36]) (by rw [Try.results15]) (by unfold Try.f15; rfl) (by simp) ?_
  simp only [argsCh]
  dsimp only [ref03_Clone_o0_1] at h
  refine Wp.reg_seq (own := fun _ => false) tt_ok ?_
  iterate 2
    refine regv_pure (s1 := ?_) rfl rfl ?_ ?_ ?_
    rotate_left
    · simp []; rfl
    · first | (simp [] <;> omega) | skip
  refine regv_nil ?_
  refine Wp.drawn (own := fun d => Nat.beq d 6 || Nat.beq d 10) tt_ok mixed [0] (by decide +kernel) trivial ?_
  refine regI_upto 3 (r := ?_) ?_ ?_ ?_
  rotate_left
  · simp [List.range, List.range.loop]; rfl
  · first | (simp [] <;> omega) | skip
  obtain ⟨a, h⟩ := oguard h
  refine regI_eff (r := ?_) rfl rfl rfl rfl rfl ?_ ?_ rfl ?_ ?_
  rotate_left
  · simp [a]; rfl
  · first | (simp [a] <;> omega) | (have hq := a; simp at hq; simp [a, hq]; done) | skip
  · simp [a]
  refine regI_upto 3 (r := ?_) ?_ ?_ ?_
  rotate_left
  · simp [List.range, List.range.loop, a]; rfl
  · first | (simp [a] <;> omega) | (have hq := a; simp at hq; simp [a, hq]; done) | skip
  obtain ⟨b, h⟩ := oguard h
  refine regI_eff (r := ?_) rfl rfl rfl rfl rfl ?_ ?_ rfl ?_ ?_
  rotate_left
  · simp [a, b]; rfl
  · first | (simp [a, b] <;> omega) | (have hq := b; simp at hq; simp [a, b, hq]; done) | skip
  · simp [a, b]
  refine regI_upto 3 (r := ?_) ?_ ?_ ?_
  rotate_left
  · simp [List.range, List.range.loop, a, b]; rfl
  · first | (simp [a, b] <;> omega) | (have hq := b; simp at hq; simp [a, b, hq]; done) | skip
  obtain ⟨e, h⟩ := oguard h
  refine regI_upto 2 (r := ?_) ?_ ?_ ?_
  rotate_left
  · simp [List.range, List.range.loop, a, b, e]; rfl
  · first | (simp [a, b, e] <;> omega) | (have hq := e; simp at hq; simp [a, b, e, hq]; done) | skip
  refine regI_bar (r := ?_) tt_ok rfl rfl rfl rfl ?_ ?_ ?_
  rotate_left
  · simp [a, b, e]; rfl
  · first | (simp [a, b, e] <;> omega) | (have hq := e; simp at hq; simp [a, b, e, hq]; done) | skip
  refine regI_nil ?_
  cases h
  refine Wp.ret (endQ_ret2 [some 2, some 3] rfl rfl (by decide) ?_ ?_)
  · repeat' first | exact objsLe_nil | refine objsLe_cons ?_ ?_
    all_goals first
      | (exact ObjLe.ghost' rfl (by decide))
      | (exact ObjLe.arr' rfl rfl (by first | (simp [a, b, e] <;> omega)) (fun _ _ => by first | rfl | (simp [a, b, e]; done)))
      | ((simp [a, b, e]; done))
  repeat' first | exact All2.nil | refine All2.cons ?_ ?_ | refine AvLe.tups ?_ | refine AvLe.aggs ?_
  all_goals first
    | (exact AvLe.refl _ rfl)
    | (exact AvLe.nil _)
    | (exact AvLe.znil _)
    | (exact AvLe.ghost _ rfl)
    | (exact AvLe.zghost _ rfl)
    | (exact AvLe.sl' rfl (by simp [a, b, e]; done) (by simp [a, b, e]; done))
    | (exact AvLe.frz2 rfl (by simp) rfl (by simp [a, b, e]; done) (by simp [a, b, e]; done) (by simp [a, b, e]; done))
    | (exact AvLe.list' (by simp [a, b, e]; done) (by simp [a, b, e]; done))
    | (exact AvLe.eq (by simp [a, b, e]; done) rfl)

theorem con_ref03_Write {n : Nat} {st0 : ApiState} {a1 : ApiAddr} {v2 : Bool} {r : ApiState × Int} (h : ref03_Write n st0 a1 v2 = some r) : Con Try.prog 32 [.agg (cApiState st0), .agg (cApiAddr a1), .bool v2] (.tup [.agg (cApiState r.1), .int .i64 r.2]) [] := by
  refine con_of (T := TT0) tt_ok Try.func32 (c := _) (by unfold Try.f32; rfl) Try.ntmps32 (rs := [.cell 6 36, .tmp 7]) (by rw [Try.results32]) (by unfold Try.f32; rfl) (by simp) ?_
  simp only [argsCh]
  dsimp only [ref03_Write] at h
  refine Wp.reg_seq (own := fun _ => false) tt_ok ?_
  iterate 4
    refine regv_pure (s1 := ?_) rfl rfl ?_ ?_ ?_
    rotate_left
    · simp []; rfl
    · first | (simp [] <;> omega) | skip
  refine regv_nil ?_
  refine Wp.reg_seq (own := fun d => Nat.beq d 10) tt_ok ?_
  iterate 1
    refine regv_pure (s1 := ?_) rfl rfl ?_ ?_ ?_
    rotate_left
    · simp []; rfl
    · first | (simp [] <;> omega) | skip
  obtain ⟨ae, af, h⟩ := obind h
  refine regv_call2 (s' := ?_) (p := ?_) (con_ref03_Clone_o0_1 af) rfl rfl rfl rfl ?_ ?_ ?_ ?_ ?_ ?_
  rotate_left 2
  · simp []; rfl
  · first | exact .inl rfl | (refine .inl ?_; simp []; done) | (refine .inr ?_; dsimp only; repeat' first | exact All2.nil | refine All2.cons ?_ ?_) <;> first | exact AvLe.refl _ rfl | exact AvLe.nil _ | exact AvLe.znil _ | exact AvLe.list' (by simp []; done) (by simp []; done) | exact AvLe.eq (by simp []; done) rfl
  · first | (simp [] <;> omega) | skip
  · simp
  · simp []; rfl
  iterate 2
    refine regv_pure (s1 := ?_) rfl rfl ?_ ?_ ?_
    rotate_left
    · simp []; rfl
    · first | (simp [] <;> omega) | skip
  refine regv_nil ?_
  refine Wp.seq ?_
  refine Wp.reg_seq (own := fun _ => false) tt_ok ?_
  iterate 2
    refine regv_pure (s1 := ?_) rfl rfl ?_ ?_ ?_
    rotate_left
    · simp []; rfl
    · first | (simp [] <;> omega) | skip
  refine regv_nil ?_
  refine Wp.block ?_
  refine Wp.reg_seq (own := fun _ => false) tt_ok ?_
  iterate 2
    refine regv_pure (s1 := ?_) rfl rfl ?_ ?_ ?_
    rotate_left
    · simp []; rfl
    · first | (simp [] <;> omega) | skip
  refine regv_nil ?_
  cases a : (a1.Space == 1)
  · rw [a, if_neg (by simp)] at h
    refine Wp.cond false (by first | (simp [a] <;> omega) | (have hq := a; simp at hq; simp [a, hq]; done)) (fun h0 => absurd h0 (by decide)) (fun _ => ?_)
    refine Wp.reg_seq (own := fun _ => false) tt_ok ?_
    iterate 2
      refine regv_pure (s1 := ?_) rfl rfl ?_ ?_ ?_
      rotate_left
      · simp [a]; rfl
      · first | (simp [a] <;> omega) | (have hq := a; simp at hq; simp [a, hq]; done) | skip
    refine regv_nil ?_
    cases b : (a1.Space == 2)
    · rw [b, if_neg (by simp)] at h
      refine Wp.cond false (by first | (simp [a, b] <;> omega) | (have hq := b; simp at hq; simp [a, b, hq]; done)) (fun h0 => absurd h0 (by decide)) (fun _ => ?_)
      refine Wp.reg_seq (own := fun _ => false) tt_ok ?_
      iterate 3
        refine regv_pure (s1 := ?_) rfl rfl ?_ ?_ ?_
        rotate_left
        · simp [a, b]; rfl
        · first | (simp [a, b] <;> omega) | (have hq := b; simp at hq; simp [a, b, hq]; done) | skip
      refine regv_nil ?_
      cases h
      refine Wp.ret (endQ_ret0 rfl ?_)
      repeat' first | exact All2.nil | refine All2.cons ?_ ?_ | refine AvLe.tups ?_ | refine AvLe.aggs ?_
      all_goals first
        | (exact AvLe.refl _ rfl)
        | (exact AvLe.nil _)
        | (exact AvLe.znil _)
        | (exact AvLe.ghost _ rfl)
        | (exact AvLe.zghost _ rfl)
        | (exact AvLe.sl' rfl (by simp [a, b]; done) (by simp [a, b]; done))
        | (exact AvLe.frz' rfl rfl rfl (by simp [a, b]; done) (by simp [a, b]; done) (by simp [a, b]; done))
        | (exact AvLe.list' (by simp [a, b]; done) (by simp [a, b]; done))
        | (exact AvLe.eq (by simp [a, b]; done) rfl)
    · rw [b, if_pos rfl] at h
      refine Wp.cond true (by first | (simp [a, b] <;> omega) | (have hq := b; simp at hq; simp [a, b, hq]; done)) (fun _ => ?_) (fun h0 => absurd h0 (by decide))
      refine Wp.seq ?_
      refine Wp.reg_seq (own := fun _ => false) tt_ok ?_
      iterate 4
        refine regv_pure (s1 := ?_) rfl rfl ?_ ?_ ?_
        rotate_left
        · simp [a, b]; rfl
        · first | (simp [a, b] <;> omega) | (have hq := b; simp at hq; simp [a, b, hq]; done) | skip
      refine (Decidable.em (a1.N < 0)).symm.elim (fun e => ?_) (fun e => ?_)
      · rw [if_neg (by simpa using e)] at h
        refine regv_pure (s1 := ?_) rfl ?_ ?_ ?_ ?_
        rotate_left
        · simp [a, b, e]; done
        · simp [a, b, e]; rfl
        · first | (simp [a, b, e] <;> omega) | (have hq := e; simp at hq; simp [a, b, e, hq]; done) | skip
        refine regv_pure (s1 := ?_) rfl ?_ ?_ ?_ ?_
        rotate_left
        · simp [a, b, e]; done
        · simp [a, b, e]; rfl
        · first | (simp [a, b, e] <;> omega) | (have hq := e; simp at hq; simp [a, b, e, hq]; done) | skip
        refine regv_pure (s1 := ?_) rfl ?_ ?_ ?_ ?_
        rotate_left
        · simp [a, b, e]; done
        · simp [a, b, e]; rfl
        · first | (simp [a, b, e] <;> omega) | (have hq := e; simp at hq; simp [a, b, e, hq]; done) | skip
        refine regv_pure (s1 := ?_) rfl ?_ ?_ ?_ ?_
        rotate_left
        · simp [a, b, e]; done
        · simp [a, b, e]; rfl
        · first | (simp [a, b, e] <;> omega) | (have hq := e; simp at hq; simp [a, b, e, hq]; done) | skip
        refine regv_pure (s1 := ?_) rfl ?_ ?_ ?_ ?_
        rotate_left
        · simp [a, b, e]; done
        · simp [a, b, e]; rfl
        · first | (simp [a, b, e] <;> omega) | (have hq := e; simp at hq; simp [a, b, e, hq]; done) | skip
        refine regv_pure (s1 := ?_) rfl ?_ ?_ ?_ ?_
        rotate_left
        · simp [a, b, e]; done
        · simp [a, b, e]; rfl
        · first | (simp [a, b, e] <;> omega) | (have hq := e; simp at hq; simp [a, b, e, hq]; done) | skip
        iterate 1
          refine regv_pure (s1 := ?_) rfl rfl ?_ ?_ ?_
          rotate_left
          · simp [a, b, e]; rfl
          · first | (simp [a, b, e] <;> omega) | (have hq := e; simp at hq; simp [a, b, e, hq]; done) | skip
        refine regv_nil ?_
        refine (Decidable.em (a1.N ≥ (ae.M.length : Int))).symm.elim (fun g => ?_) (fun g => ?_)
        · rw [if_neg (by simpa using g)] at h
          refine Wp.cond false (by first | (simp [a, b, e, g] <;> omega) | (have hq := g; simp at hq; simp [a, b, e, g, hq]; done)) (fun h0 => absurd h0 (by decide)) (fun _ => ?_)
          refine Wp.skip ?_
          show Wp _ _ _ _
          refine Wp.reg (own := fun _ => false) tt_ok ?_
          iterate 5
            refine regv_pure (s1 := ?_) rfl rfl ?_ ?_ ?_
            rotate_left
            · simp [a, b, e, g]; rfl
            · first | (simp [a, b, e, g] <;> omega) | (have hq := g; simp at hq; simp [a, b, e, g, hq]; done) | skip
          obtain ⟨aj, ag, h⟩ := obind h
          obtain ⟨v, m, j⟩ := atI_some ag
          try simp [a, b, e, g] at m
          try simp only [Int.toNat_natCast, Int.reduceToNat, Nat.zero_add, Nat.add_zero] at j
          have o := getElem_of j
          iterate 2
            refine regv_pure (s1 := ?_) rfl rfl ?_ ?_ ?_
            rotate_left
            · simp [a, b, e, g, v, m, j, o]; rfl
            · first | (simp [a, b, e, g, v, m, j, o] <;> omega) | (have hq := o; simp at hq; simp [a, b, e, g, v, m, j, o, hq]; done) | skip
          obtain ⟨ak, ac, h⟩ := obind h
          have y := congrArg (List.map cB) (Option.some.inj ac)
          have z := (congrArg List.length (Option.some.inj ac)).symm
          try simp [a, b, e, g, v, m, j, o] at y
          try simp [a, b, e, g, v, m, j, o] at z
          clear ac
          try simp only [y]
          refine regv_nil ?_
          show Wp _ _ _ _
          refine Wp.reg_seq (own := fun _ => false) tt_ok ?_
          iterate 3
            refine regv_pure (s1 := ?_) rfl rfl ?_ ?_ ?_
            rotate_left
            · simp [a, b, e, g, v, m, j, o, y, z]; rfl
            · first | (simp [a, b, e, g, v, m, j, o, y, z] <;> omega) | (have hq := z; simp at hq; simp [a, b, e, g, v, m, j, o, y, z, hq]; done) | skip
          refine regv_nil ?_
          cases h
          refine Wp.ret (endQ_ret0 rfl ?_)
          repeat' first | exact All2.nil | refine All2.cons ?_ ?_ | refine AvLe.tups ?_ | refine AvLe.aggs ?_
          all_goals first
            | (exact AvLe.refl _ rfl)
            | (exact AvLe.nil _)
            | (exact AvLe.znil _)
            | (exact AvLe.ghost _ rfl)
            | (exact AvLe.zghost _ rfl)
            | (exact AvLe.sl' rfl (by simp [a, b, e, g, v, m, j, o, y, z]; done) (by simp [a, b, e, g, v, m, j, o, y, z]; done))
            | (exact AvLe.frz' rfl rfl rfl (by simp [a, b, e, g, v, m, j, o, y, z]; done) (by simp [a, b, e, g, v, m, j, o, y, z]; done) (by simp [a, b, e, g, v, m, j, o, y, z]; done))
            | (exact AvLe.list' (by simp [a, b, e, g, v, m, j, o, y, z]; done) (by simp [a, b, e, g, v, m, j, o, y, z]; done))
            | (exact AvLe.eq (by simp [a, b, e, g, v, m, j, o, y, z]; done) rfl)
        · rw [if_pos (decide_eq_true g)] at h
          refine Wp.cond true (by first | (simp [a, b, e, g] <;> omega) | (have hq := g; simp at hq; simp [a, b, e, g, hq]; done)) (fun _ => ?_) (fun h0 => absurd h0 (by decide))
          refine Wp.reg_seq (own := fun _ => false) tt_ok ?_
          iterate 3
            refine regv_pure (s1 := ?_) rfl rfl ?_ ?_ ?_
            rotate_left
            · simp [a, b, e, g]; rfl
            · first | (simp [a, b, e, g] <;> omega) | (have hq := g; simp at hq; simp [a, b, e, g, hq]; done) | skip
          refine regv_nil ?_
          cases h
          refine Wp.ret (endQ_ret0 rfl ?_)
          repeat' first | exact All2.nil | refine All2.cons ?_ ?_ | refine AvLe.tups ?_ | refine AvLe.aggs ?_
          all_goals first
            | (exact AvLe.refl _ rfl)
            | (exact AvLe.nil _)
            | (exact AvLe.znil _)
            | (exact AvLe.ghost _ rfl)
            | (exact AvLe.zghost _ rfl)
            | (exact AvLe.sl' rfl (by simp [a, b, e, g]; done) (by simp [a, b, e, g]; done))
            | (exact AvLe.frz' rfl rfl rfl (by simp [a, b, e, g]; done) (by simp [a, b, e, g]; done) (by simp [a, b, e, g]; done))
            | (exact AvLe.list' (by simp [a, b, e, g]; done) (by simp [a, b, e, g]; done))
            | (exact AvLe.eq (by simp [a, b, e, g]; done) rfl)
      · rw [if_pos (decide_eq_true e)] at h
        refine regv_skip (s1 := ?_) ?_ ?_ ?_
        rotate_left
        · simp [a, b, e]; done
        · simp [a, b, e]; rfl
        refine regv_skip (s1 := ?_) ?_ ?_ ?_
        rotate_left
        · simp [a, b, e]; done
        · simp [a, b, e]; rfl
        refine regv_skip (s1 := ?_) ?_ ?_ ?_
        rotate_left
        · simp [a, b, e]; done
        · simp [a, b, e]; rfl
        refine regv_skip (s1 := ?_) ?_ ?_ ?_
        rotate_left
        · simp [a, b, e]; done
        · simp [a, b, e]; rfl
        refine regv_skip (s1 := ?_) ?_ ?_ ?_
        rotate_left
        · simp [a, b, e]; done
        · simp [a, b, e]; rfl
        refine regv_skip (s1 := ?_) ?_ ?_ ?_
        rotate_left
        · simp [a, b, e]; done
        · simp [a, b, e]; rfl
        iterate 1
          refine regv_pure (s1 := ?_) rfl rfl ?_ ?_ ?_
          rotate_left
          · simp [a, b, e]; rfl
          · first | (simp [a, b, e] <;> omega) | (have hq := e; simp at hq; simp [a, b, e, hq]; done) | skip
        refine regv_nil ?_
        refine Wp.cond true (by first | (simp [a, b, e] <;> omega) | (have hq := e; simp at hq; simp [a, b, e, hq]; done)) (fun _ => ?_) (fun h0 => absurd h0 (by decide))
        refine Wp.reg_seq (own := fun _ => false) tt_ok ?_
        iterate 3
          refine regv_pure (s1 := ?_) rfl rfl ?_ ?_ ?_
          rotate_left
          · simp [a, b, e]; rfl
          · first | (simp [a, b, e] <;> omega) | (have hq := e; simp at hq; simp [a, b, e, hq]; done) | skip
        refine regv_nil ?_
        cases h
        refine Wp.ret (endQ_ret0 rfl ?_)
        repeat' first | exact All2.nil | refine All2.cons ?_ ?_ | refine AvLe.tups ?_ | refine AvLe.aggs ?_
        all_goals first
          | (exact AvLe.refl _ rfl)
          | (exact AvLe.nil _)
          | (exact AvLe.znil _)
          | (exact AvLe.ghost _ rfl)
          | (exact AvLe.zghost _ rfl)
          | (exact AvLe.sl' rfl (by simp [a, b, e]; done) (by simp [a, b, e]; done))
          | (exact AvLe.frz' rfl rfl rfl (by simp [a, b, e]; done) (by simp [a, b, e]; done) (by simp [a, b, e]; done))
          | (exact AvLe.list' (by simp [a, b, e]; done) (by simp [a, b, e]; done))
          | (exact AvLe.eq (by simp [a, b, e]; done) rfl)
  · rw [a, if_pos rfl] at h
    refine Wp.cond true (by first | (simp [a] <;> omega) | (have hq := a; simp at hq; simp [a, hq]; done)) (fun _ => ?_) (fun h0 => absurd h0 (by decide))
    refine Wp.seq ?_
    refine Wp.reg_seq (own := fun _ => false) tt_ok ?_
    iterate 4
      refine regv_pure (s1 := ?_) rfl rfl ?_ ?_ ?_
      rotate_left
      · simp [a]; rfl
      · first | (simp [a] <;> omega) | (have hq := a; simp at hq; simp [a, hq]; done) | skip
    refine (Decidable.em (a1.N < 0)).symm.elim (fun f => ?_) (fun f => ?_)
    · rw [if_neg (by simpa using f)] at h
      refine regv_pure (s1 := ?_) rfl ?_ ?_ ?_ ?_
      rotate_left
      · simp [a, f]; done
      · simp [a, f]; rfl
      · first | (simp [a, f] <;> omega) | (have hq := f; simp at hq; simp [a, f, hq]; done) | skip
      refine regv_pure (s1 := ?_) rfl ?_ ?_ ?_ ?_
      rotate_left
      · simp [a, f]; done
      · simp [a, f]; rfl
      · first | (simp [a, f] <;> omega) | (have hq := f; simp at hq; simp [a, f, hq]; done) | skip
      refine regv_pure (s1 := ?_) rfl ?_ ?_ ?_ ?_
      rotate_left
      · simp [a, f]; done
      · simp [a, f]; rfl
      · first | (simp [a, f] <;> omega) | (have hq := f; simp at hq; simp [a, f, hq]; done) | skip
      refine regv_pure (s1 := ?_) rfl ?_ ?_ ?_ ?_
      rotate_left
      · simp [a, f]; done
      · simp [a, f]; rfl
      · first | (simp [a, f] <;> omega) | (have hq := f; simp at hq; simp [a, f, hq]; done) | skip
      refine regv_pure (s1 := ?_) rfl ?_ ?_ ?_ ?_
      rotate_left
      · simp [a, f]; done
      · simp [a, f]; rfl
      · first | (simp [a, f] <;> omega) | (have hq := f; simp at hq; simp [a, f, hq]; done) | skip
      refine regv_pure (s1 := ?_) rfl ?_ ?_ ?_ ?_
      rotate_left
      · simp [a, f]; done
      · simp [a, f]; rfl
      · first | (simp [a, f] <;> omega) | (have hq := f; simp at hq; simp [a, f, hq]; done) | skip
      iterate 1
        refine regv_pure (s1 := ?_) rfl rfl ?_ ?_ ?_
        rotate_left
        · simp [a, f]; rfl
        · first | (simp [a, f] <;> omega) | (have hq := f; simp at hq; simp [a, f, hq]; done) | skip
      refine regv_nil ?_
      refine (Decidable.em (a1.N ≥ (ae.Q.length : Int))).symm.elim (fun i => ?_) (fun i => ?_)
      · rw [if_neg (by simpa using i)] at h
        refine Wp.cond false (by first | (simp [a, f, i] <;> omega) | (have hq := i; simp at hq; simp [a, f, i, hq]; done)) (fun h0 => absurd h0 (by decide)) (fun _ => ?_)
        refine Wp.skip ?_
        show Wp _ _ _ _
        refine Wp.reg (own := fun _ => false) tt_ok ?_
        iterate 5
          refine regv_pure (s1 := ?_) rfl rfl ?_ ?_ ?_
          rotate_left
          · simp [a, f, i]; rfl
          · first | (simp [a, f, i] <;> omega) | (have hq := i; simp at hq; simp [a, f, i, hq]; done) | skip
        obtain ⟨am, ai, h⟩ := obind h
        obtain ⟨w, q, k⟩ := atI_some ai
        try simp [a, f, i] at q
        try simp only [Int.toNat_natCast, Int.reduceToNat, Nat.zero_add, Nat.add_zero] at k
        have u := getElem_of k
        iterate 2
          refine regv_pure (s1 := ?_) rfl rfl ?_ ?_ ?_
          rotate_left
          · simp [a, f, i, w, q, k, u]; rfl
          · first | (simp [a, f, i, w, q, k, u] <;> omega) | (have hq := u; simp at hq; simp [a, f, i, w, q, k, u, hq]; done) | skip
        obtain ⟨ao, ad, h⟩ := obind h
        have aa := congrArg (List.map cB) (Option.some.inj ad)
        have ab := (congrArg List.length (Option.some.inj ad)).symm
        try simp [a, f, i, w, q, k, u] at aa
        try simp [a, f, i, w, q, k, u] at ab
        clear ad
        try simp only [aa]
        refine regv_nil ?_
        show Wp _ _ _ _
        refine Wp.reg_seq (own := fun _ => false) tt_ok ?_
        iterate 3
          refine regv_pure (s1 := ?_) rfl rfl ?_ ?_ ?_
          rotate_left
          · simp [a, f, i, w, q, k, u, aa, ab]; rfl
          · first | (simp [a, f, i, w, q, k, u, aa, ab] <;> omega) | (have hq := ab; simp at hq; simp [a, f, i, w, q, k, u, aa, ab, hq]; done) | skip
        refine regv_nil ?_
        cases h
        refine Wp.ret (endQ_ret0 rfl ?_)
        repeat' first | exact All2.nil | refine All2.cons ?_ ?_ | refine AvLe.tups ?_ | refine AvLe.aggs ?_
        all_goals first
          | (exact AvLe.refl _ rfl)
          | (exact AvLe.nil _)
          | (exact AvLe.znil _)
          | (exact AvLe.ghost _ rfl)
          | (exact AvLe.zghost _ rfl)
          | (exact AvLe.sl' rfl (by simp [a, f, i, w, q, k, u, aa, ab]; done) (by simp [a, f, i, w, q, k, u, aa, ab]; done))
          | (exact AvLe.frz' rfl rfl rfl (by simp [a, f, i, w, q, k, u, aa, ab]; done) (by simp [a, f, i, w, q, k, u, aa, ab]; done) (by simp [a, f, i, w, q, k, u, aa, ab]; done))
          | (exact AvLe.list' (by simp [a, f, i, w, q, k, u, aa, ab]; done) (by simp [a, f, i, w, q, k, u, aa, ab]; done))
          | (exact AvLe.eq (by simp [a, f, i, w, q, k, u, aa, ab]; done) rfl)
      · rw [if_pos (decide_eq_true i)] at h
        refine Wp.cond true (by first | (simp [a, f, i] <;> omega) | (have hq := i; simp at hq; simp [a, f, i, hq]; done)) (fun _ => ?_) (fun h0 => absurd h0 (by decide))
        refine Wp.reg_seq (own := fun _ => false) tt_ok ?_
        iterate 3
          refine regv_pure (s1 := ?_) rfl rfl ?_ ?_ ?_
          rotate_left
          · simp [a, f, i]; rfl
          · first | (simp [a, f, i] <;> omega) | (have hq := i; simp at hq; simp [a, f, i, hq]; done) | skip
        refine regv_nil ?_
        cases h
        refine Wp.ret (endQ_ret0 rfl ?_)
        repeat' first | exact All2.nil | refine All2.cons ?_ ?_ | refine AvLe.tups ?_ | refine AvLe.aggs ?_
        all_goals first
          | (exact AvLe.refl _ rfl)
          | (exact AvLe.nil _)
          | (exact AvLe.znil _)
          | (exact AvLe.ghost _ rfl)
          | (exact AvLe.zghost _ rfl)
          | (exact AvLe.sl' rfl (by simp [a, f, i]; done) (by simp [a, f, i]; done))
          | (exact AvLe.frz' rfl rfl rfl (by simp [a, f, i]; done) (by simp [a, f, i]; done) (by simp [a, f, i]; done))
          | (exact AvLe.list' (by simp [a, f, i]; done) (by simp [a, f, i]; done))
          | (exact AvLe.eq (by simp [a, f, i]; done) rfl)
    · rw [if_pos (decide_eq_true f)] at h
      refine regv_skip (s1 := ?_) ?_ ?_ ?_
      rotate_left
      · simp [a, f]; done
      · simp [a, f]; rfl
      refine regv_skip (s1 := ?_) ?_ ?_ ?_
      rotate_left
      · simp [a, f]; done
      · simp [a, f]; rfl
      refine regv_skip (s1 := ?_) ?_ ?_ ?_
      rotate_left
      · simp [a, f]; done
      · simp [a, f]; rfl
      refine regv_skip (s1 := ?_) ?_ ?_ ?_
      rotate_left
      · simp [a, f]; done
      · simp [a, f]; rfl
      refine regv_skip (s1 := ?_) ?_ ?_ ?_
      rotate_left
      · simp [a, f]; done
      · simp [a, f]; rfl
      refine regv_skip (s1 := ?_) ?_ ?_ ?_
      rotate_left
      · simp [a, f]; done
      · simp [a, f]; rfl
      iterate 1
        refine regv_pure (s1 := ?_) rfl rfl ?_ ?_ ?_
        rotate_left
        · simp [a, f]; rfl
        · first | (simp [a, f] <;> omega) | (have hq := f; simp at hq; simp [a, f, hq]; done) | skip
      refine regv_nil ?_
      refine Wp.cond true (by first | (simp [a, f] <;> omega) | (have hq := f; simp at hq; simp [a, f, hq]; done)) (fun _ => ?_) (fun h0 => absurd h0 (by decide))
      refine Wp.reg_seq (own := fun _ => false) tt_ok ?_
      iterate 3
        refine regv_pure (s1 := ?_) rfl rfl ?_ ?_ ?_
        rotate_left
        · simp [a, f]; rfl
        · first | (simp [a, f] <;> omega) | (have hq := f; simp at hq; simp [a, f, hq]; done) | skip
      refine regv_nil ?_
      cases h
      refine Wp.ret (endQ_ret0 rfl ?_)
      repeat' first | exact All2.nil | refine All2.cons ?_ ?_ | refine AvLe.tups ?_ | refine AvLe.aggs ?_
      all_goals first
        | (exact AvLe.refl _ rfl)
        | (exact AvLe.nil _)
        | (exact AvLe.znil _)
        | (exact AvLe.ghost _ rfl)
        | (exact AvLe.zghost _ rfl)
        | (exact AvLe.sl' rfl (by simp [a, f]; done) (by simp [a, f]; done))
        | (exact AvLe.frz' rfl rfl rfl (by simp [a, f]; done) (by simp [a, f]; done) (by simp [a, f]; done))
        | (exact AvLe.list' (by simp [a, f]; done) (by simp [a, f]; done))
        | (exact AvLe.eq (by simp [a, f]; done) rfl)

def ref16_Coils_S1 (n : Nat) (_append0 : ApiRung) (a2 : Bool) (y : List Bool) (z : List Bool) (aa : List Bool) (w : Int) : St :=
  { ch := [(2, .bool a2), (3, .hptr 0 0 0), (6, .hptr 1 0 0), (8, .hptr 2 0 0), (9, .int .i64 w)], hp := [.var [.str _append0.Label, aL cApiContact _append0.Contacts, aL cApiCoil _append0.Coils, .str _append0.Jump], .var [.nilsl, .nilsl, .nilsl], .var [aL cB y, aL cB z, aL cB aa]], base := 0, n := 66, cond := True }

def ref16_Coils_S2 (n : Nat) (_append0 : ApiRung) (a2 : Bool) (y : List Bool) (z : List Bool) (aa : List Bool) (w : Int) (v : ApiCoil) (ad : Bool) : St :=
  { ch := [(2, .bool a2), (3, .hptr 0 0 0), (6, .hptr 1 0 0), (8, .hptr 2 0 0), (9, .int .i64 w), (10, .hptr 3 0 0), (11, .bool ad), (32, .hptr 3 0 0), (33, .int .i64 v.Kind), (34, .bool (decide (v.Kind > 3)))], hp := [.var [.str _append0.Label, aL cApiContact _append0.Contacts, aL cApiCoil _append0.Coils, .str _append0.Jump], .var [.nilsl, .nilsl, .nilsl], .var [aL cB y, aL cB z, aL cB aa], .var [.int .i64 v.Kind, .int .i64 v.A.Space, .int .i64 v.A.N]], base := 0, n := 66, cond := True }

def ref16_Coils_S3 (n : Nat) (_append0 : ApiRung) (a2 : Bool) (y : List Bool) (z : List Bool) (aa : List Bool) (w : Int) (v : ApiCoil) (ac : Bool) : St :=
  { ch := [(2, .bool a2), (3, .hptr 0 0 0), (6, .hptr 1 0 0), (8, .hptr 2 0 0), (9, .int .i64 w), (10, .hptr 3 0 0), (11, .bool ac), (32, .hptr 3 0 0), (33, .int .i64 v.Kind), (34, .bool (decide (v.Kind > 3)))], hp := [.var [.str _append0.Label, aL cApiContact _append0.Contacts, aL cApiCoil _append0.Coils, .str _append0.Jump], .var [.nilsl, .nilsl, .nilsl], .var [aL cB y, aL cB z, aL cB aa], .var [.int .i64 v.Kind, .int .i64 v.A.Space, .int .i64 v.A.N]], base := 0, n := 66, cond := True }

theorem con_ref16_Coils {n : Nat} {_append0 : ApiRung} {a1 : ApiState} {a2 : Bool} {r : ApiState × Int} (h : ref16_Coils n _append0 a1 a2 = some r) : Con Try.prog 20 [.agg (cApiRung _append0), .agg (cApiState a1), .bool a2] (.tup [.agg (cApiState r.1), .int .i64 r.2]) [] := by
  refine con_of (T := TT0) tt_ok Try.func20 (c := _) (by unfold Try.f20; rfl) Try.ntmps20 (rs := [.cell 6 36, .tmp 7]) (by rw [Try.results20]) (by unfold Try.f20; rfl) (by simp) ?_
  simp only [argsCh]
  dsimp only [ref16_Coils] at h
  refine Wp.reg_seq (own := fun _ => false) tt_ok ?_
  iterate 4
    refine regv_pure (s1 := ?_) rfl rfl ?_ ?_ ?_
    rotate_left
    · simp []; rfl
    · first | (simp [] <;> omega) | skip
  refine regv_nil ?_
  refine Wp.reg_seq (own := fun _ => false) tt_ok ?_
  iterate 1
    refine regv_pure (s1 := ?_) rfl rfl ?_ ?_ ?_
    rotate_left
    · simp []; rfl
    · first | (simp [] <;> omega) | skip
  obtain ⟨ae, af, h⟩ := obind h
  refine regv_call2 (s' := ?_) (p := ?_) (con_ref03_Clone af) rfl rfl rfl rfl ?_ ?_ ?_ ?_ ?_ ?_
  rotate_left 2
  · simp []; rfl
  · first | exact .inl rfl | (refine .inl ?_; simp []; done) | (refine .inr ?_; dsimp only; repeat' first | exact All2.nil | refine All2.cons ?_ ?_) <;> first | exact AvLe.refl _ rfl | exact AvLe.nil _ | exact AvLe.znil _ | exact AvLe.list' (by simp []; done) (by simp []; done) | exact AvLe.eq (by simp []; done) rfl
  · first | (simp [] <;> omega) | skip
  · simp
  · simp []; rfl
  iterate 2
    refine regv_pure (s1 := ?_) rfl rfl ?_ ?_ ?_
    rotate_left
    · simp []; rfl
    · first | (simp [] <;> omega) | skip
  refine regv_nil ?_
  refine Wp.seq ?_
  refine Wp.reg_seq (own := fun _ => false) tt_ok ?_
  iterate 1
    refine regv_pure (s1 := ?_) rfl rfl ?_ ?_ ?_
    rotate_left
    · simp []; rfl
    · first | (simp [] <;> omega) | skip
  refine regv_nil ?_
  refine Wp.block ?_
  refine Wp.loopF (α := (List Bool) × (List Bool) × (List Bool) × Int) (fun x => ref16_Coils_S1 n _append0 a2 x.1 x.2.1 x.2.2.1 x.2.2.2) (fun m x => ref16_Coils_L1 n _append0 a2 m x.1 x.2.1 x.2.2.1 x.2.2.2 = some r) (fun _ h => by cases h) ?_ n (ae.Q, ae.M, ae.E, 0) h ?_
  rotate_left
  · simp only [ref16_Coils_S1]
    refine Reloc.mk2 [some 0, some 2, some 3] rfl rfl rfl (by decide) ?_ ?_
    · repeat' first | exact objsLe_nil | refine objsLe_cons ?_ ?_
      all_goals first
        | exact trivial
        | (refine ObjLe.var' rfl rfl ?_ rfl
           repeat' first | exact All2.nil | refine All2.cons ?_ ?_
           all_goals first | (exact AvLe.refl _ rfl) | (exact AvLe.sl _ _ _ _ rfl) | (exact AvLe.hptr _ _ _ _ rfl) | (exact AvLe.mp _ _ rfl) | (exact AvLe.nil _) | (exact AvLe.znil _) | (exact AvLe.ghost _ rfl) | (exact AvLe.zghost _ rfl) | (exact AvLe.sl' rfl (by simp []; done) (by first | (simp [] <;> omega) | omega)) | (exact AvLe.frz2 rfl (by simp) rfl (by simp []; done) (by simp []; done) (by simp []; done)) | (exact AvLe.list' (by simp []; done) (by simp []; done)) | (exact AvLe.eq (by simp []; done) rfl))
        | (exact ObjLe.map' rfl rfl)
        | (exact ObjLe.ghost' rfl (by decide))
        | (exact ObjLe.arr' rfl rfl (by first | (simp [] <;> omega)) (fun _ _ => by first | rfl | (simp []; done)))
        | ((simp []; done))
    · repeat' first | exact chLe_nil | refine chLe_cons ?_ ?_
      all_goals first
        | (exact AvLe.refl _ rfl)
        | (exact AvLe.sl _ _ _ _ rfl)
        | (exact AvLe.hptr _ _ _ _ rfl)
        | (exact AvLe.mp _ _ rfl)
        | (exact AvLe.nil _)
        | (exact AvLe.znil _)
        | (exact AvLe.ghost _ rfl)
        | (exact AvLe.zghost _ rfl)
        | (exact AvLe.sl' rfl (by simp []; done) (by first | (simp [] <;> omega) | omega))
        | (exact AvLe.frz2 rfl (by simp) rfl (by simp []; done) (by simp []; done) (by simp []; done))
        | (exact AvLe.list' (by simp []; done) (by simp []; done))
        | (exact AvLe.eq (by simp []; done) rfl)
  rintro rec_n1 ⟨y, z, aa, w⟩ h
  simp only [ref16_Coils_S1]
  dsimp only [ref16_Coils_L1] at h
  refine Wp.seq ?_
  refine Wp.reg_seq (own := fun _ => false) tt_ok ?_
  iterate 5
    refine regv_pure (s1 := ?_) rfl rfl ?_ ?_ ?_
    rotate_left
    · simp []; rfl
    · first | (simp [] <;> omega) | skip
  refine regv_nil ?_
  refine (Decidable.em (w < (_append0.Coils.length : Int))).symm.elim (fun f => ?_) (fun f => ?_)
  · rw [if_neg (by simpa using f)] at h
    refine Wp.cond false (by first | (simp [f] <;> omega) | (have hq := f; simp at hq; simp [f, hq]; done)) (fun h0 => absurd h0 (by decide)) (fun _ => ?_)
    refine Wp.exit ?_
    show Wp _ _ _ _
    refine Wp.reg_seq (own := fun _ => false) tt_ok ?_
    iterate 3
      refine regv_pure (s1 := ?_) rfl rfl ?_ ?_ ?_
      rotate_left
      · simp [f]; rfl
      · first | (simp [f] <;> omega) | (have hq := f; simp at hq; simp [f, hq]; done) | skip
    refine regv_nil ?_
    cases h
    refine Wp.ret (endQ_ret0 rfl ?_)
    repeat' first | exact All2.nil | refine All2.cons ?_ ?_ | refine AvLe.tups ?_ | refine AvLe.aggs ?_
    all_goals first
      | (exact AvLe.refl _ rfl)
      | (exact AvLe.nil _)
      | (exact AvLe.znil _)
      | (exact AvLe.ghost _ rfl)
      | (exact AvLe.zghost _ rfl)
      | (exact AvLe.sl' rfl (by simp [f]; done) (by simp [f]; done))
      | (exact AvLe.frz' rfl rfl rfl (by simp [f]; done) (by simp [f]; done) (by simp [f]; done))
      | (exact AvLe.list' (by simp [f]; done) (by simp [f]; done))
      | (exact AvLe.eq (by simp [f]; done) rfl)
  · rw [if_pos (decide_eq_true f)] at h
    refine Wp.cond true (by first | (simp [f] <;> omega) | (have hq := f; simp at hq; simp [f, hq]; done)) (fun _ => ?_) (fun h0 => absurd h0 (by decide))
    refine Wp.skip ?_
    show Wp _ _ _ _
    refine Wp.seq ?_
    refine Wp.block ?_
    refine Wp.reg_seq (own := fun _ => false) tt_ok ?_
    iterate 3
      refine regv_pure (s1 := ?_) rfl rfl ?_ ?_ ?_
      rotate_left
      · simp [f]; rfl
      · first | (simp [f] <;> omega) | (have hq := f; simp at hq; simp [f, hq]; done) | skip
    obtain ⟨v, ag, h⟩ := obind h
    obtain ⟨e, d, a⟩ := atI_some ag
    try simp [f] at d
    try simp only [Int.toNat_natCast, Int.reduceToNat, Nat.zero_add, Nat.add_zero] at a
    have b := getElem_of a
    iterate 4
      refine regv_pure (s1 := ?_) rfl rfl ?_ ?_ ?_
      rotate_left
      · simp [f, e, d, a, b]; rfl
      · first | (simp [f, e, d, a, b] <;> omega) | (have hq := b; simp at hq; simp [f, e, d, a, b, hq]; done) | skip
    refine regv_nil ?_
    refine Wp.seq ?_
    refine Wp.reg_seq (own := fun _ => false) tt_ok ?_
    iterate 4
      refine regv_pure (s1 := ?_) rfl rfl ?_ ?_ ?_
      rotate_left
      · simp [f, e, d, a, b]; rfl
      · first | (simp [f, e, d, a, b] <;> omega) | (have hq := b; simp at hq; simp [f, e, d, a, b, hq]; done) | skip
    refine (Decidable.em (v.Kind < 0)).symm.elim (fun g => ?_) (fun g => ?_)
    · rw [if_neg (by simpa using g)] at h
      refine regv_pure (s1 := ?_) rfl ?_ ?_ ?_ ?_
      rotate_left
      · simp [f, e, d, a, b, g]; done
      · simp [f, e, d, a, b, g]; rfl
      · first | (simp [f, e, d, a, b, g] <;> omega) | (have hq := g; simp at hq; simp [f, e, d, a, b, g, hq]; done) | skip
      refine regv_pure (s1 := ?_) rfl ?_ ?_ ?_ ?_
      rotate_left
      · simp [f, e, d, a, b, g]; done
      · simp [f, e, d, a, b, g]; rfl
      · first | (simp [f, e, d, a, b, g] <;> omega) | (have hq := g; simp at hq; simp [f, e, d, a, b, g, hq]; done) | skip
      refine regv_pure (s1 := ?_) rfl ?_ ?_ ?_ ?_
      rotate_left
      · simp [f, e, d, a, b, g]; done
      · simp [f, e, d, a, b, g]; rfl
      · first | (simp [f, e, d, a, b, g] <;> omega) | (have hq := g; simp at hq; simp [f, e, d, a, b, g, hq]; done) | skip
      iterate 1
        refine regv_pure (s1 := ?_) rfl rfl ?_ ?_ ?_
        rotate_left
        · simp [f, e, d, a, b, g]; rfl
        · first | (simp [f, e, d, a, b, g] <;> omega) | (have hq := g; simp at hq; simp [f, e, d, a, b, g, hq]; done) | skip
      refine regv_nil ?_
      refine (Decidable.em (v.Kind > 3)).symm.elim (fun i => ?_) (fun i => ?_)
      · rw [if_neg (by simpa using i)] at h
        refine Wp.cond false (by first | (simp [f, e, d, a, b, g, i] <;> omega) | (have hq := i; simp at hq; simp [f, e, d, a, b, g, i, hq]; done)) (fun h0 => absurd h0 (by decide)) (fun _ => ?_)
        refine Wp.skip ?_
        show Wp _ _ _ _
        refine Wp.reg_seq (own := fun _ => false) tt_ok ?_
        iterate 2
          refine regv_pure (s1 := ?_) rfl rfl ?_ ?_ ?_
          rotate_left
          · simp [f, e, d, a, b, g, i]; rfl
          · first | (simp [f, e, d, a, b, g, i] <;> omega) | (have hq := i; simp at hq; simp [f, e, d, a, b, g, i, hq]; done) | skip
        refine regv_nil ?_
        refine Wp.join (α := Bool) (fun x => ref16_Coils_S2 n _append0 a2 y z aa w v x) (fun x => ref16_Coils_J2 n a2 y z aa w (ref16_Coils_L1 n _append0 a2 rec_n1) v x = some r) ?_ ?_
        · clear h
          rintro ad h
          simp only [ref16_Coils_S2]
          dsimp only [ref16_Coils_J2] at h
          refine Wp.join (α := Bool) (fun x => ref16_Coils_S3 n _append0 a2 y z aa w v x) (fun x => ref16_Coils_J3 n a2 y z aa w (ref16_Coils_L1 n _append0 a2 rec_n1) v x = some r) ?_ ?_
          · clear h
            rintro ac h
            simp only [ref16_Coils_S3]
            dsimp only [ref16_Coils_J3] at h
            refine Wp.reg_seq (own := fun _ => false) tt_ok ?_
            iterate 4
              refine regv_pure (s1 := ?_) rfl rfl ?_ ?_ ?_
              rotate_left
              · simp [f, e, d, a, b, g, i]; rfl
              · first | (simp [f, e, d, a, b, g, i] <;> omega) | (have hq := i; simp at hq; simp [f, e, d, a, b, g, i, hq]; done) | skip
            obtain ⟨⟨ab, aj⟩, ai, h⟩ := obind h
            dsimp only at h
            refine regv_call2 (s' := ?_) (p := ?_) (con_ref03_Write ai) rfl rfl rfl rfl ?_ ?_ ?_ ?_ ?_ ?_
            rotate_left 2
            · simp [f, e, d, a, b, g, i]; rfl
            · first | exact .inl rfl | (refine .inl ?_; simp [f, e, d, a, b, g, i]; done) | (refine .inr ?_; dsimp only; repeat' first | exact All2.nil | refine All2.cons ?_ ?_) <;> first | exact AvLe.refl _ rfl | exact AvLe.nil _ | exact AvLe.znil _ | exact AvLe.list' (by simp [f, e, d, a, b, g, i]; done) (by simp [f, e, d, a, b, g, i]; done) | exact AvLe.eq (by simp [f, e, d, a, b, g, i]; done) rfl
            · first | (simp [f, e, d, a, b, g, i] <;> omega) | (have hq := i; simp at hq; simp [f, e, d, a, b, g, i, hq]; done) | skip
            · simp
            · simp [f, e, d, a, b, g, i]; rfl
            iterate 6
              refine regv_pure (s1 := ?_) rfl rfl ?_ ?_ ?_
              rotate_left
              · simp [f, e, d, a, b, g, i]; rfl
              · first | (simp [f, e, d, a, b, g, i] <;> omega) | (have hq := i; simp at hq; simp [f, e, d, a, b, g, i, hq]; done) | skip
            refine regv_nil ?_
            refine Wp.seq ?_
            refine Wp.reg_seq (own := fun _ => false) tt_ok ?_
            iterate 2
              refine regv_pure (s1 := ?_) rfl rfl ?_ ?_ ?_
              rotate_left
              · simp [f, e, d, a, b, g, i]; rfl
              · first | (simp [f, e, d, a, b, g, i] <;> omega) | (have hq := i; simp at hq; simp [f, e, d, a, b, g, i, hq]; done) | skip
            refine regv_nil ?_
            cases j : (aj != 0)
            · rw [j, if_neg (by simp)] at h
              refine Wp.cond false (by first | (simp [f, e, d, a, b, g, i, j] <;> omega) | (have hq := j; simp at hq; simp [f, e, d, a, b, g, i, j, hq]; done)) (fun h0 => absurd h0 (by decide)) (fun _ => ?_)
              refine Wp.skip ?_
              show Wp _ _ _ _
              refine Wp.reg_seq (own := fun _ => false) tt_ok ?_
              iterate 4
                refine regv_pure (s1 := ?_) rfl rfl ?_ ?_ ?_
                rotate_left
                · simp [f, e, d, a, b, g, i, j]; rfl
                · first | (simp [f, e, d, a, b, g, i, j] <;> omega) | (have hq := j; simp at hq; simp [f, e, d, a, b, g, i, j, hq]; done) | skip
              refine (Decidable.em (v.Kind < 2)).symm.elim (fun k => ?_) (fun k => ?_)
              · rw [if_neg (by simpa using k)] at h
                refine regv_pure (s1 := ?_) rfl ?_ ?_ ?_ ?_
                rotate_left
                · simp [f, e, d, a, b, g, i, j, k]; done
                · simp [f, e, d, a, b, g, i, j, k]; rfl
                · first | (simp [f, e, d, a, b, g, i, j, k] <;> omega) | (have hq := k; simp at hq; simp [f, e, d, a, b, g, i, j, k, hq]; done) | skip
                iterate 1
                  refine regv_pure (s1 := ?_) rfl rfl ?_ ?_ ?_
                  rotate_left
                  · simp [f, e, d, a, b, g, i, j, k]; rfl
                  · first | (simp [f, e, d, a, b, g, i, j, k] <;> omega) | (have hq := k; simp at hq; simp [f, e, d, a, b, g, i, j, k, hq]; done) | skip
                refine regv_nil ?_
                cases o : a2
                · rw [o, if_neg (by simp)] at h
                  refine Wp.cond false (by first | (simp [f, e, d, a, b, g, i, j, k, o] <;> omega) | (have hq := o; simp at hq; simp [f, e, d, a, b, g, i, j, k, o, hq]; done)) (fun h0 => absurd h0 (by decide)) (fun _ => ?_)
                  refine Wp.skip ?_
                  show Wp _ _ _ _
                  refine Wp.reg (own := fun _ => false) tt_ok ?_
                  iterate 3
                    refine regv_pure (s1 := ?_) rfl rfl ?_ ?_ ?_
                    rotate_left
                    · simp [f, e, d, a, b, g, i, j, k, o]; rfl
                    · first | (simp [f, e, d, a, b, g, i, j, k, o] <;> omega) | (have hq := o; simp at hq; simp [f, e, d, a, b, g, i, j, k, o, hq]; done) | skip
                  refine regv_nil ?_
                  refine next_mk (y, z, aa, (IntKind.i64.wrap (w + 1))) h ?_
                  refine Reloc.mk2 [some 0, some 1, some 2] rfl rfl rfl (by decide) ?_ ?_
                  · repeat' first | exact objsLe_nil | refine objsLe_cons ?_ ?_
                    all_goals first
                      | exact trivial
                      | (refine ObjLe.var' rfl rfl ?_ rfl
                         repeat' first | exact All2.nil | refine All2.cons ?_ ?_
                         all_goals first | (exact AvLe.refl _ rfl) | (exact AvLe.sl _ _ _ _ rfl) | (exact AvLe.hptr _ _ _ _ rfl) | (exact AvLe.mp _ _ rfl) | (exact AvLe.nil _) | (exact AvLe.znil _) | (exact AvLe.ghost _ rfl) | (exact AvLe.zghost _ rfl) | (exact AvLe.sl' rfl (by simp [f, e, d, a, b, g, i, j, k, o]; done) (by first | (simp [f, e, d, a, b, g, i, j, k, o] <;> omega) | omega)) | (exact AvLe.frz2 rfl (by simp) rfl (by simp [f, e, d, a, b, g, i, j, k, o]; done) (by simp [f, e, d, a, b, g, i, j, k, o]; done) (by simp [f, e, d, a, b, g, i, j, k, o]; done)) | (exact AvLe.list' (by simp [f, e, d, a, b, g, i, j, k, o]; done) (by simp [f, e, d, a, b, g, i, j, k, o]; done)) | (exact AvLe.eq (by simp [f, e, d, a, b, g, i, j, k, o]; done) rfl))
                      | (exact ObjLe.map' rfl rfl)
                      | (exact ObjLe.ghost' rfl (by decide))
                      | (exact ObjLe.arr' rfl rfl (by first | (simp [f, e, d, a, b, g, i, j, k, o] <;> omega)) (fun _ _ => by first | rfl | (simp [f, e, d, a, b, g, i, j, k, o]; done)))
                      | ((simp [f, e, d, a, b, g, i, j, k, o]; done))
                  · repeat' first | exact chLe_nil | refine chLe_cons ?_ ?_
                    all_goals first
                      | (exact AvLe.refl _ rfl)
                      | (exact AvLe.sl _ _ _ _ rfl)
                      | (exact AvLe.hptr _ _ _ _ rfl)
                      | (exact AvLe.mp _ _ rfl)
                      | (exact AvLe.nil _)
                      | (exact AvLe.znil _)
                      | (exact AvLe.ghost _ rfl)
                      | (exact AvLe.zghost _ rfl)
                      | (exact AvLe.sl' rfl (by simp [f, e, d, a, b, g, i, j, k, o]; done) (by first | (simp [f, e, d, a, b, g, i, j, k, o] <;> omega) | omega))
                      | (exact AvLe.frz2 rfl (by simp) rfl (by simp [f, e, d, a, b, g, i, j, k, o]; done) (by simp [f, e, d, a, b, g, i, j, k, o]; done) (by simp [f, e, d, a, b, g, i, j, k, o]; done))
                      | (exact AvLe.list' (by simp [f, e, d, a, b, g, i, j, k, o]; done) (by simp [f, e, d, a, b, g, i, j, k, o]; done))
                      | (exact AvLe.eq (by simp [f, e, d, a, b, g, i, j, k, o]; done) rfl)
                · rw [o, if_pos rfl] at h
                  refine Wp.cond true (by first | (simp [f, e, d, a, b, g, i, j, k, o] <;> omega) | (have hq := o; simp at hq; simp [f, e, d, a, b, g, i, j, k, o, hq]; done)) (fun _ => ?_) (fun h0 => absurd h0 (by decide))
                  refine Wp.reg (own := fun _ => false) tt_ok ?_
                  iterate 2
                    refine regv_pure (s1 := ?_) rfl rfl ?_ ?_ ?_
                    rotate_left
                    · simp [f, e, d, a, b, g, i, j, k, o]; rfl
                    · first | (simp [f, e, d, a, b, g, i, j, k, o] <;> omega) | (have hq := o; simp at hq; simp [f, e, d, a, b, g, i, j, k, o, hq]; done) | skip
                  refine regv_nil ?_
                  show Wp _ _ _ _
                  refine Wp.reg (own := fun _ => false) tt_ok ?_
                  iterate 3
                    refine regv_pure (s1 := ?_) rfl rfl ?_ ?_ ?_
                    rotate_left
                    · simp [f, e, d, a, b, g, i, j, k, o]; rfl
                    · first | (simp [f, e, d, a, b, g, i, j, k, o] <;> omega) | (have hq := o; simp at hq; simp [f, e, d, a, b, g, i, j, k, o, hq]; done) | skip
                  refine regv_nil ?_
                  refine next_mk (ab.Q, ab.M, ab.E, (IntKind.i64.wrap (w + 1))) h ?_
                  refine Reloc.mk2 [some 0, some 1, some 2] rfl rfl rfl (by decide) ?_ ?_
                  · repeat' first | exact objsLe_nil | refine objsLe_cons ?_ ?_
                    all_goals first
                      | exact trivial
                      | (refine ObjLe.var' rfl rfl ?_ rfl
                         repeat' first | exact All2.nil | refine All2.cons ?_ ?_
                         all_goals first | (exact AvLe.refl _ rfl) | (exact AvLe.sl _ _ _ _ rfl) | (exact AvLe.hptr _ _ _ _ rfl) | (exact AvLe.mp _ _ rfl) | (exact AvLe.nil _) | (exact AvLe.znil _) | (exact AvLe.ghost _ rfl) | (exact AvLe.zghost _ rfl) | (exact AvLe.sl' rfl (by simp [f, e, d, a, b, g, i, j, k, o]; done) (by first | (simp [f, e, d, a, b, g, i, j, k, o] <;> omega) | omega)) | (exact AvLe.frz2 rfl (by simp) rfl (by simp [f, e, d, a, b, g, i, j, k, o]; done) (by simp [f, e, d, a, b, g, i, j, k, o]; done) (by simp [f, e, d, a, b, g, i, j, k, o]; done)) | (exact AvLe.list' (by simp [f, e, d, a, b, g, i, j, k, o]; done) (by simp [f, e, d, a, b, g, i, j, k, o]; done)) | (exact AvLe.eq (by simp [f, e, d, a, b, g, i, j, k, o]; done) rfl))
                      | (exact ObjLe.map' rfl rfl)
                      | (exact ObjLe.ghost' rfl (by decide))
                      | (exact ObjLe.arr' rfl rfl (by first | (simp [f, e, d, a, b, g, i, j, k, o] <;> omega)) (fun _ _ => by first | rfl | (simp [f, e, d, a, b, g, i, j, k, o]; done)))
                      | ((simp [f, e, d, a, b, g, i, j, k, o]; done))
                  · repeat' first | exact chLe_nil | refine chLe_cons ?_ ?_
                    all_goals first
                      | (exact AvLe.refl _ rfl)
                      | (exact AvLe.sl _ _ _ _ rfl)
                      | (exact AvLe.hptr _ _ _ _ rfl)
                      | (exact AvLe.mp _ _ rfl)
                      | (exact AvLe.nil _)
                      | (exact AvLe.znil _)
                      | (exact AvLe.ghost _ rfl)
                      | (exact AvLe.zghost _ rfl)
                      | (exact AvLe.sl' rfl (by simp [f, e, d, a, b, g, i, j, k, o]; done) (by first | (simp [f, e, d, a, b, g, i, j, k, o] <;> omega) | omega))
                      | (exact AvLe.frz2 rfl (by simp) rfl (by simp [f, e, d, a, b, g, i, j, k, o]; done) (by simp [f, e, d, a, b, g, i, j, k, o]; done) (by simp [f, e, d, a, b, g, i, j, k, o]; done))
                      | (exact AvLe.list' (by simp [f, e, d, a, b, g, i, j, k, o]; done) (by simp [f, e, d, a, b, g, i, j, k, o]; done))
                      | (exact AvLe.eq (by simp [f, e, d, a, b, g, i, j, k, o]; done) rfl)
              · rw [if_pos (decide_eq_true k)] at h
                refine regv_skip (s1 := ?_) ?_ ?_ ?_
                rotate_left
                · simp [f, e, d, a, b, g, i, j, k]; done
                · simp [f, e, d, a, b, g, i, j, k]; rfl
                iterate 1
                  refine regv_pure (s1 := ?_) rfl rfl ?_ ?_ ?_
                  rotate_left
                  · simp [f, e, d, a, b, g, i, j, k]; rfl
                  · first | (simp [f, e, d, a, b, g, i, j, k] <;> omega) | (have hq := k; simp at hq; simp [f, e, d, a, b, g, i, j, k, hq]; done) | skip
                refine regv_nil ?_
                refine Wp.cond true (by first | (simp [f, e, d, a, b, g, i, j, k] <;> omega) | (have hq := k; simp at hq; simp [f, e, d, a, b, g, i, j, k, hq]; done)) (fun _ => ?_) (fun h0 => absurd h0 (by decide))
                refine Wp.reg (own := fun _ => false) tt_ok ?_
                iterate 2
                  refine regv_pure (s1 := ?_) rfl rfl ?_ ?_ ?_
                  rotate_left
                  · simp [f, e, d, a, b, g, i, j, k]; rfl
                  · first | (simp [f, e, d, a, b, g, i, j, k] <;> omega) | (have hq := k; simp at hq; simp [f, e, d, a, b, g, i, j, k, hq]; done) | skip
                refine regv_nil ?_
                show Wp _ _ _ _
                refine Wp.reg (own := fun _ => false) tt_ok ?_
                iterate 3
                  refine regv_pure (s1 := ?_) rfl rfl ?_ ?_ ?_
                  rotate_left
                  · simp [f, e, d, a, b, g, i, j, k]; rfl
                  · first | (simp [f, e, d, a, b, g, i, j, k] <;> omega) | (have hq := k; simp at hq; simp [f, e, d, a, b, g, i, j, k, hq]; done) | skip
                refine regv_nil ?_
                refine next_mk (ab.Q, ab.M, ab.E, (IntKind.i64.wrap (w + 1))) h ?_
                refine Reloc.mk2 [some 0, some 1, some 2] rfl rfl rfl (by decide) ?_ ?_
                · repeat' first | exact objsLe_nil | refine objsLe_cons ?_ ?_
                  all_goals first
                    | exact trivial
                    | (refine ObjLe.var' rfl rfl ?_ rfl
                       repeat' first | exact All2.nil | refine All2.cons ?_ ?_
                       all_goals first | (exact AvLe.refl _ rfl) | (exact AvLe.sl _ _ _ _ rfl) | (exact AvLe.hptr _ _ _ _ rfl) | (exact AvLe.mp _ _ rfl) | (exact AvLe.nil _) | (exact AvLe.znil _) | (exact AvLe.ghost _ rfl) | (exact AvLe.zghost _ rfl) | (exact AvLe.sl' rfl (by simp [f, e, d, a, b, g, i, j, k]; done) (by first | (simp [f, e, d, a, b, g, i, j, k] <;> omega) | omega)) | (exact AvLe.frz2 rfl (by simp) rfl (by simp [f, e, d, a, b, g, i, j, k]; done) (by simp [f, e, d, a, b, g, i, j, k]; done) (by simp [f, e, d, a, b, g, i, j, k]; done)) | (exact AvLe.list' (by simp [f, e, d, a, b, g, i, j, k]; done) (by simp [f, e, d, a, b, g, i, j, k]; done)) | (exact AvLe.eq (by simp [f, e, d, a, b, g, i, j, k]; done) rfl))
                    | (exact ObjLe.map' rfl rfl)
                    | (exact ObjLe.ghost' rfl (by decide))
                    | (exact ObjLe.arr' rfl rfl (by first | (simp [f, e, d, a, b, g, i, j, k] <;> omega)) (fun _ _ => by first | rfl | (simp [f, e, d, a, b, g, i, j, k]; done)))
                    | ((simp [f, e, d, a, b, g, i, j, k]; done))
                · repeat' first | exact chLe_nil | refine chLe_cons ?_ ?_
                  all_goals first
                    | (exact AvLe.refl _ rfl)
                    | (exact AvLe.sl _ _ _ _ rfl)
                    | (exact AvLe.hptr _ _ _ _ rfl)
                    | (exact AvLe.mp _ _ rfl)
                    | (exact AvLe.nil _)
                    | (exact AvLe.znil _)
                    | (exact AvLe.ghost _ rfl)
                    | (exact AvLe.zghost _ rfl)
                    | (exact AvLe.sl' rfl (by simp [f, e, d, a, b, g, i, j, k]; done) (by first | (simp [f, e, d, a, b, g, i, j, k] <;> omega) | omega))
                    | (exact AvLe.frz2 rfl (by simp) rfl (by simp [f, e, d, a, b, g, i, j, k]; done) (by simp [f, e, d, a, b, g, i, j, k]; done) (by simp [f, e, d, a, b, g, i, j, k]; done))
                    | (exact AvLe.list' (by simp [f, e, d, a, b, g, i, j, k]; done) (by simp [f, e, d, a, b, g, i, j, k]; done))
                    | (exact AvLe.eq (by simp [f, e, d, a, b, g, i, j, k]; done) rfl)
            · rw [j, if_pos rfl] at h
              refine Wp.cond true (by first | (simp [f, e, d, a, b, g, i, j] <;> omega) | (have hq := j; simp at hq; simp [f, e, d, a, b, g, i, j, hq]; done)) (fun _ => ?_) (fun h0 => absurd h0 (by decide))
              refine Wp.reg_seq (own := fun _ => false) tt_ok ?_
              iterate 4
                refine regv_pure (s1 := ?_) rfl rfl ?_ ?_ ?_
                rotate_left
                · simp [f, e, d, a, b, g, i, j]; rfl
                · first | (simp [f, e, d, a, b, g, i, j] <;> omega) | (have hq := j; simp at hq; simp [f, e, d, a, b, g, i, j, hq]; done) | skip
              refine regv_nil ?_
              cases h
              refine Wp.ret (endQ_ret0 rfl ?_)
              repeat' first | exact All2.nil | refine All2.cons ?_ ?_ | refine AvLe.tups ?_ | refine AvLe.aggs ?_
              all_goals first
                | (exact AvLe.refl _ rfl)
                | (exact AvLe.nil _)
                | (exact AvLe.znil _)
                | (exact AvLe.ghost _ rfl)
                | (exact AvLe.zghost _ rfl)
                | (exact AvLe.sl' rfl (by simp [f, e, d, a, b, g, i, j]; done) (by simp [f, e, d, a, b, g, i, j]; done))
                | (exact AvLe.frz' rfl rfl rfl (by simp [f, e, d, a, b, g, i, j]; done) (by simp [f, e, d, a, b, g, i, j]; done) (by simp [f, e, d, a, b, g, i, j]; done))
                | (exact AvLe.list' (by simp [f, e, d, a, b, g, i, j]; done) (by simp [f, e, d, a, b, g, i, j]; done))
                | (exact AvLe.eq (by simp [f, e, d, a, b, g, i, j]; done) rfl)
          · skip
            refine Wp.reg_seq (own := fun _ => false) tt_ok ?_
            iterate 3
              refine regv_pure (s1 := ?_) rfl rfl ?_ ?_ ?_
              rotate_left
              · simp [f, e, d, a, b, g, i]; rfl
              · first | (simp [f, e, d, a, b, g, i] <;> omega) | (have hq := i; simp at hq; simp [f, e, d, a, b, g, i, hq]; done) | skip
            refine regv_nil ?_
            cases q : (v.Kind == 3)
            · rw [q, if_neg (by simp)] at h
              refine Wp.cond false (by first | (simp [f, e, d, a, b, g, i, q] <;> omega) | (have hq := q; simp at hq; simp [f, e, d, a, b, g, i, q, hq]; done)) (fun h0 => absurd h0 (by decide)) (fun _ => ?_)
              refine Wp.skip ?_
              refine next_mk ad h ?_
              refine Reloc.mk2 [some 0, some 1, some 2, some 3] rfl rfl rfl (by decide) ?_ ?_
              · repeat' first | exact objsLe_nil | refine objsLe_cons ?_ ?_
                all_goals first
                  | exact trivial
                  | (refine ObjLe.var' rfl rfl ?_ rfl
                     repeat' first | exact All2.nil | refine All2.cons ?_ ?_
                     all_goals first | (exact AvLe.refl _ rfl) | (exact AvLe.sl _ _ _ _ rfl) | (exact AvLe.hptr _ _ _ _ rfl) | (exact AvLe.mp _ _ rfl) | (exact AvLe.nil _) | (exact AvLe.znil _) | (exact AvLe.ghost _ rfl) | (exact AvLe.zghost _ rfl) | (exact AvLe.sl' rfl (by simp [f, e, d, a, b, g, i, q]; done) (by first | (simp [f, e, d, a, b, g, i, q] <;> omega) | omega)) | (exact AvLe.frz2 rfl (by simp) rfl (by simp [f, e, d, a, b, g, i, q]; done) (by simp [f, e, d, a, b, g, i, q]; done) (by simp [f, e, d, a, b, g, i, q]; done)) | (exact AvLe.list' (by simp [f, e, d, a, b, g, i, q]; done) (by simp [f, e, d, a, b, g, i, q]; done)) | (exact AvLe.eq (by simp [f, e, d, a, b, g, i, q]; done) rfl))
                  | (exact ObjLe.map' rfl rfl)
                  | (exact ObjLe.ghost' rfl (by decide))
                  | (exact ObjLe.arr' rfl rfl (by first | (simp [f, e, d, a, b, g, i, q] <;> omega)) (fun _ _ => by first | rfl | (simp [f, e, d, a, b, g, i, q]; done)))
                  | ((simp [f, e, d, a, b, g, i, q]; done))
              · repeat' first | exact chLe_nil | refine chLe_cons ?_ ?_
                all_goals first
                  | (exact AvLe.refl _ rfl)
                  | (exact AvLe.sl _ _ _ _ rfl)
                  | (exact AvLe.hptr _ _ _ _ rfl)
                  | (exact AvLe.mp _ _ rfl)
                  | (exact AvLe.nil _)
                  | (exact AvLe.znil _)
                  | (exact AvLe.ghost _ rfl)
                  | (exact AvLe.zghost _ rfl)
                  | (exact AvLe.sl' rfl (by simp [f, e, d, a, b, g, i, q]; done) (by first | (simp [f, e, d, a, b, g, i, q] <;> omega) | omega))
                  | (exact AvLe.frz2 rfl (by simp) rfl (by simp [f, e, d, a, b, g, i, q]; done) (by simp [f, e, d, a, b, g, i, q]; done) (by simp [f, e, d, a, b, g, i, q]; done))
                  | (exact AvLe.list' (by simp [f, e, d, a, b, g, i, q]; done) (by simp [f, e, d, a, b, g, i, q]; done))
                  | (exact AvLe.eq (by simp [f, e, d, a, b, g, i, q]; done) rfl)
            · rw [q, if_pos rfl] at h
              refine Wp.cond true (by first | (simp [f, e, d, a, b, g, i, q] <;> omega) | (have hq := q; simp at hq; simp [f, e, d, a, b, g, i, q, hq]; done)) (fun _ => ?_) (fun h0 => absurd h0 (by decide))
              refine Wp.reg (own := fun _ => false) tt_ok ?_
              iterate 1
                refine regv_pure (s1 := ?_) rfl rfl ?_ ?_ ?_
                rotate_left
                · simp [f, e, d, a, b, g, i, q]; rfl
                · first | (simp [f, e, d, a, b, g, i, q] <;> omega) | (have hq := q; simp at hq; simp [f, e, d, a, b, g, i, q, hq]; done) | skip
              refine regv_nil ?_
              refine next_mk false h ?_
              refine Reloc.mk2 [some 0, some 1, some 2, some 3] rfl rfl rfl (by decide) ?_ ?_
              · repeat' first | exact objsLe_nil | refine objsLe_cons ?_ ?_
                all_goals first
                  | exact trivial
                  | (refine ObjLe.var' rfl rfl ?_ rfl
                     repeat' first | exact All2.nil | refine All2.cons ?_ ?_
                     all_goals first | (exact AvLe.refl _ rfl) | (exact AvLe.sl _ _ _ _ rfl) | (exact AvLe.hptr _ _ _ _ rfl) | (exact AvLe.mp _ _ rfl) | (exact AvLe.nil _) | (exact AvLe.znil _) | (exact AvLe.ghost _ rfl) | (exact AvLe.zghost _ rfl) | (exact AvLe.sl' rfl (by simp [f, e, d, a, b, g, i, q]; done) (by first | (simp [f, e, d, a, b, g, i, q] <;> omega) | omega)) | (exact AvLe.frz2 rfl (by simp) rfl (by simp [f, e, d, a, b, g, i, q]; done) (by simp [f, e, d, a, b, g, i, q]; done) (by simp [f, e, d, a, b, g, i, q]; done)) | (exact AvLe.list' (by simp [f, e, d, a, b, g, i, q]; done) (by simp [f, e, d, a, b, g, i, q]; done)) | (exact AvLe.eq (by simp [f, e, d, a, b, g, i, q]; done) rfl))
                  | (exact ObjLe.map' rfl rfl)
                  | (exact ObjLe.ghost' rfl (by decide))
                  | (exact ObjLe.arr' rfl rfl (by first | (simp [f, e, d, a, b, g, i, q] <;> omega)) (fun _ _ => by first | rfl | (simp [f, e, d, a, b, g, i, q]; done)))
                  | ((simp [f, e, d, a, b, g, i, q]; done))
              · repeat' first | exact chLe_nil | refine chLe_cons ?_ ?_
                all_goals first
                  | (exact AvLe.refl _ rfl)
                  | (exact AvLe.sl _ _ _ _ rfl)
                  | (exact AvLe.hptr _ _ _ _ rfl)
                  | (exact AvLe.mp _ _ rfl)
                  | (exact AvLe.nil _)
                  | (exact AvLe.znil _)
                  | (exact AvLe.ghost _ rfl)
                  | (exact AvLe.zghost _ rfl)
                  | (exact AvLe.sl' rfl (by simp [f, e, d, a, b, g, i, q]; done) (by first | (simp [f, e, d, a, b, g, i, q] <;> omega) | omega))
                  | (exact AvLe.frz2 rfl (by simp) rfl (by simp [f, e, d, a, b, g, i, q]; done) (by simp [f, e, d, a, b, g, i, q]; done) (by simp [f, e, d, a, b, g, i, q]; done))
                  | (exact AvLe.list' (by simp [f, e, d, a, b, g, i, q]; done) (by simp [f, e, d, a, b, g, i, q]; done))
                  | (exact AvLe.eq (by simp [f, e, d, a, b, g, i, q]; done) rfl)
        · skip
          refine Wp.reg_seq (own := fun _ => false) tt_ok ?_
          iterate 3
            refine regv_pure (s1 := ?_) rfl rfl ?_ ?_ ?_
            rotate_left
            · simp [f, e, d, a, b, g, i]; rfl
            · first | (simp [f, e, d, a, b, g, i] <;> omega) | (have hq := i; simp at hq; simp [f, e, d, a, b, g, i, hq]; done) | skip
          refine regv_nil ?_
          cases u : (v.Kind == 1)
          · rw [u, if_neg (by simp)] at h
            refine Wp.cond false (by first | (simp [f, e, d, a, b, g, i, u] <;> omega) | (have hq := u; simp at hq; simp [f, e, d, a, b, g, i, u, hq]; done)) (fun h0 => absurd h0 (by decide)) (fun _ => ?_)
            refine Wp.skip ?_
            refine next_mk a2 h ?_
            refine Reloc.mk2 [some 0, some 1, some 2, some 3] rfl rfl rfl (by decide) ?_ ?_
            · repeat' first | exact objsLe_nil | refine objsLe_cons ?_ ?_
              all_goals first
                | exact trivial
                | (refine ObjLe.var' rfl rfl ?_ rfl
                   repeat' first | exact All2.nil | refine All2.cons ?_ ?_
                   all_goals first | (exact AvLe.refl _ rfl) | (exact AvLe.sl _ _ _ _ rfl) | (exact AvLe.hptr _ _ _ _ rfl) | (exact AvLe.mp _ _ rfl) | (exact AvLe.nil _) | (exact AvLe.znil _) | (exact AvLe.ghost _ rfl) | (exact AvLe.zghost _ rfl) | (exact AvLe.sl' rfl (by simp [f, e, d, a, b, g, i, u]; done) (by first | (simp [f, e, d, a, b, g, i, u] <;> omega) | omega)) | (exact AvLe.frz2 rfl (by simp) rfl (by simp [f, e, d, a, b, g, i, u]; done) (by simp [f, e, d, a, b, g, i, u]; done) (by simp [f, e, d, a, b, g, i, u]; done)) | (exact AvLe.list' (by simp [f, e, d, a, b, g, i, u]; done) (by simp [f, e, d, a, b, g, i, u]; done)) | (exact AvLe.eq (by simp [f, e, d, a, b, g, i, u]; done) rfl))
                | (exact ObjLe.map' rfl rfl)
                | (exact ObjLe.ghost' rfl (by decide))
                | (exact ObjLe.arr' rfl rfl (by first | (simp [f, e, d, a, b, g, i, u] <;> omega)) (fun _ _ => by first | rfl | (simp [f, e, d, a, b, g, i, u]; done)))
                | ((simp [f, e, d, a, b, g, i, u]; done))
            · repeat' first | exact chLe_nil | refine chLe_cons ?_ ?_
              all_goals first
                | (exact AvLe.refl _ rfl)
                | (exact AvLe.sl _ _ _ _ rfl)
                | (exact AvLe.hptr _ _ _ _ rfl)
                | (exact AvLe.mp _ _ rfl)
                | (exact AvLe.nil _)
                | (exact AvLe.znil _)
                | (exact AvLe.ghost _ rfl)
                | (exact AvLe.zghost _ rfl)
                | (exact AvLe.sl' rfl (by simp [f, e, d, a, b, g, i, u]; done) (by first | (simp [f, e, d, a, b, g, i, u] <;> omega) | omega))
                | (exact AvLe.frz2 rfl (by simp) rfl (by simp [f, e, d, a, b, g, i, u]; done) (by simp [f, e, d, a, b, g, i, u]; done) (by simp [f, e, d, a, b, g, i, u]; done))
                | (exact AvLe.list' (by simp [f, e, d, a, b, g, i, u]; done) (by simp [f, e, d, a, b, g, i, u]; done))
                | (exact AvLe.eq (by simp [f, e, d, a, b, g, i, u]; done) rfl)
          · rw [u, if_pos rfl] at h
            refine Wp.cond true (by first | (simp [f, e, d, a, b, g, i, u] <;> omega) | (have hq := u; simp at hq; simp [f, e, d, a, b, g, i, u, hq]; done)) (fun _ => ?_) (fun h0 => absurd h0 (by decide))
            refine Wp.reg (own := fun _ => false) tt_ok ?_
            iterate 3
              refine regv_pure (s1 := ?_) rfl rfl ?_ ?_ ?_
              rotate_left
              · simp [f, e, d, a, b, g, i, u]; rfl
              · first | (simp [f, e, d, a, b, g, i, u] <;> omega) | (have hq := u; simp at hq; simp [f, e, d, a, b, g, i, u, hq]; done) | skip
            refine regv_nil ?_
            refine next_mk (!a2) h ?_
            refine Reloc.mk2 [some 0, some 1, some 2, some 3] rfl rfl rfl (by decide) ?_ ?_
            · repeat' first | exact objsLe_nil | refine objsLe_cons ?_ ?_
              all_goals first
                | exact trivial
                | (refine ObjLe.var' rfl rfl ?_ rfl
                   repeat' first | exact All2.nil | refine All2.cons ?_ ?_
                   all_goals first | (exact AvLe.refl _ rfl) | (exact AvLe.sl _ _ _ _ rfl) | (exact AvLe.hptr _ _ _ _ rfl) | (exact AvLe.mp _ _ rfl) | (exact AvLe.nil _) | (exact AvLe.znil _) | (exact AvLe.ghost _ rfl) | (exact AvLe.zghost _ rfl) | (exact AvLe.sl' rfl (by simp [f, e, d, a, b, g, i, u]; done) (by first | (simp [f, e, d, a, b, g, i, u] <;> omega) | omega)) | (exact AvLe.frz2 rfl (by simp) rfl (by simp [f, e, d, a, b, g, i, u]; done) (by simp [f, e, d, a, b, g, i, u]; done) (by simp [f, e, d, a, b, g, i, u]; done)) | (exact AvLe.list' (by simp [f, e, d, a, b, g, i, u]; done) (by simp [f, e, d, a, b, g, i, u]; done)) | (exact AvLe.eq (by simp [f, e, d, a, b, g, i, u]; done) rfl))
                | (exact ObjLe.map' rfl rfl)
                | (exact ObjLe.ghost' rfl (by decide))
                | (exact ObjLe.arr' rfl rfl (by first | (simp [f, e, d, a, b, g, i, u] <;> omega)) (fun _ _ => by first | rfl | (simp [f, e, d, a, b, g, i, u]; done)))
                | ((simp [f, e, d, a, b, g, i, u]; done))
            · repeat' first | exact chLe_nil | refine chLe_cons ?_ ?_
              all_goals first
                | (exact AvLe.refl _ rfl)
                | (exact AvLe.sl _ _ _ _ rfl)
                | (exact AvLe.hptr _ _ _ _ rfl)
                | (exact AvLe.mp _ _ rfl)
                | (exact AvLe.nil _)
                | (exact AvLe.znil _)
                | (exact AvLe.ghost _ rfl)
                | (exact AvLe.zghost _ rfl)
                | (exact AvLe.sl' rfl (by simp [f, e, d, a, b, g, i, u]; done) (by first | (simp [f, e, d, a, b, g, i, u] <;> omega) | omega))
                | (exact AvLe.frz2 rfl (by simp) rfl (by simp [f, e, d, a, b, g, i, u]; done) (by simp [f, e, d, a, b, g, i, u]; done) (by simp [f, e, d, a, b, g, i, u]; done))
                | (exact AvLe.list' (by simp [f, e, d, a, b, g, i, u]; done) (by simp [f, e, d, a, b, g, i, u]; done))
                | (exact AvLe.eq (by simp [f, e, d, a, b, g, i, u]; done) rfl)
      · rw [if_pos (decide_eq_true i)] at h
        refine Wp.cond true (by first | (simp [f, e, d, a, b, g, i] <;> omega) | (have hq := i; simp at hq; simp [f, e, d, a, b, g, i, hq]; done)) (fun _ => ?_) (fun h0 => absurd h0 (by decide))
        refine Wp.reg_seq (own := fun _ => false) tt_ok ?_
        iterate 3
          refine regv_pure (s1 := ?_) rfl rfl ?_ ?_ ?_
          rotate_left
          · simp [f, e, d, a, b, g, i]; rfl
          · first | (simp [f, e, d, a, b, g, i] <;> omega) | (have hq := i; simp at hq; simp [f, e, d, a, b, g, i, hq]; done) | skip
        refine regv_nil ?_
        cases h
        refine Wp.ret (endQ_ret0 rfl ?_)
        repeat' first | exact All2.nil | refine All2.cons ?_ ?_ | refine AvLe.tups ?_ | refine AvLe.aggs ?_
        all_goals first
          | (exact AvLe.refl _ rfl)
          | (exact AvLe.nil _)
          | (exact AvLe.znil _)
          | (exact AvLe.ghost _ rfl)
          | (exact AvLe.zghost _ rfl)
          | (exact AvLe.sl' rfl (by simp [f, e, d, a, b, g, i]; done) (by simp [f, e, d, a, b, g, i]; done))
          | (exact AvLe.frz' rfl rfl rfl (by simp [f, e, d, a, b, g, i]; done) (by simp [f, e, d, a, b, g, i]; done) (by simp [f, e, d, a, b, g, i]; done))
          | (exact AvLe.list' (by simp [f, e, d, a, b, g, i]; done) (by simp [f, e, d, a, b, g, i]; done))
          | (exact AvLe.eq (by simp [f, e, d, a, b, g, i]; done) rfl)
    · rw [if_pos (decide_eq_true g)] at h
      refine regv_skip (s1 := ?_) ?_ ?_ ?_
      rotate_left
      · simp [f, e, d, a, b, g]; done
      · simp [f, e, d, a, b, g]; rfl
      refine regv_skip (s1 := ?_) ?_ ?_ ?_
      rotate_left
      · simp [f, e, d, a, b, g]; done
      · simp [f, e, d, a, b, g]; rfl
      refine regv_skip (s1 := ?_) ?_ ?_ ?_
      rotate_left
      · simp [f, e, d, a, b, g]; done
      · simp [f, e, d, a, b, g]; rfl
      iterate 1
        refine regv_pure (s1 := ?_) rfl rfl ?_ ?_ ?_
        rotate_left
        · simp [f, e, d, a, b, g]; rfl
        · first | (simp [f, e, d, a, b, g] <;> omega) | (have hq := g; simp at hq; simp [f, e, d, a, b, g, hq]; done) | skip
      refine regv_nil ?_
      refine Wp.cond true (by first | (simp [f, e, d, a, b, g] <;> omega) | (have hq := g; simp at hq; simp [f, e, d, a, b, g, hq]; done)) (fun _ => ?_) (fun h0 => absurd h0 (by decide))
      refine Wp.reg_seq (own := fun _ => false) tt_ok ?_
      iterate 3
        refine regv_pure (s1 := ?_) rfl rfl ?_ ?_ ?_
        rotate_left
        · simp [f, e, d, a, b, g]; rfl
        · first | (simp [f, e, d, a, b, g] <;> omega) | (have hq := g; simp at hq; simp [f, e, d, a, b, g, hq]; done) | skip
      refine regv_nil ?_
      cases h
      refine Wp.ret (endQ_ret0 rfl ?_)
      repeat' first | exact All2.nil | refine All2.cons ?_ ?_ | refine AvLe.tups ?_ | refine AvLe.aggs ?_
      all_goals first
        | (exact AvLe.refl _ rfl)
        | (exact AvLe.nil _)
        | (exact AvLe.znil _)
        | (exact AvLe.ghost _ rfl)
        | (exact AvLe.zghost _ rfl)
        | (exact AvLe.sl' rfl (by simp [f, e, d, a, b, g]; done) (by simp [f, e, d, a, b, g]; done))
        | (exact AvLe.frz' rfl rfl rfl (by simp [f, e, d, a, b, g]; done) (by simp [f, e, d, a, b, g]; done) (by simp [f, e, d, a, b, g]; done))
        | (exact AvLe.list' (by simp [f, e, d, a, b, g]; done) (by simp [f, e, d, a, b, g]; done))
        | (exact AvLe.eq (by simp [f, e, d, a, b, g]; done) rfl)

theorem con_slices_Clone_bool {n : Nat} {s0 : List Bool} {r : (List Bool)} (h : slices_Clone_bool n s0 = some r) : Con Try.prog 39 [aL cB s0] (aL cB r) [] := by
  refine con_of (T := TT0) tt_ok Try.func39 (c := _) (by unfold Try.f39; rfl) Try.ntmps39 (rs := [.tmp 2]) (by rw [Try.results39]) (by unfold Try.f39; rfl) (by simp) ?_
  simp only [argsCh]
  dsimp only [slices_Clone_bool] at h
  refine Wp.reg_seq (own := fun _ => false) tt_ok ?_
  iterate 1
    refine regv_pure (s1 := ?_) rfl rfl ?_ ?_ ?_
    rotate_left
    · simp []; rfl
    · first | (simp [] <;> omega) | skip
  refine regv_nil ?_
  refine Wp.seq ?_
  refine Wp.reg_seq (own := fun _ => false) tt_ok ?_
  iterate 1
    refine regv_pure (s1 := ?_) rfl rfl ?_ ?_ ?_
    rotate_left
    · simp []; rfl
    · first | (simp [] <;> omega) | skip
  refine regv_isnil rfl (.inl rfl) rfl rfl rfl rfl rfl fun d b => ?_
  refine ⟨_, rfl, ?_⟩
  cases d
  · replace h := isnil_f h
    clear b
    simp only [reduceCtorEq, if_true, if_false, Bool.not_true, Bool.not_false]
    refine regv_nil ?_
    refine Wp.cond false (by first | (simp [] <;> omega)) (fun h0 => absurd h0 (by decide)) (fun _ => ?_)
    refine Wp.skip ?_
    show Wp _ _ _ _
    refine Wp.reg_seq (own := fun _ => false) tt_ok ?_
    iterate 2
      refine regv_pure (s1 := ?_) rfl rfl ?_ ?_ ?_
      rotate_left
      · simp []; rfl
      · first | (simp [] <;> omega) | skip
    obtain ⟨a, h⟩ := oguard h
    iterate 2
      refine regv_pure (s1 := ?_) rfl rfl ?_ ?_ ?_
      rotate_left
      · simp [a]; rfl
      · first | (simp [a] <;> omega) | (have hq := a; simp at hq; simp [a, hq]; done) | skip
    refine regv_nil ?_
    cases h
    refine Wp.ret (endQ_ret0 rfl ?_)
    repeat' first | exact All2.nil | refine All2.cons ?_ ?_ | refine AvLe.tups ?_ | refine AvLe.aggs ?_
    all_goals first
      | (exact AvLe.refl _ rfl)
      | (exact AvLe.nil _)
      | (exact AvLe.znil _)
      | (exact AvLe.ghost _ rfl)
      | (exact AvLe.zghost _ rfl)
      | (exact AvLe.sl' rfl (by simp [a]; done) (by simp [a]; done))
      | (exact AvLe.frz' rfl rfl rfl (by simp [a]; done) (by simp [a]; done) (by simp [a]; done))
      | (exact AvLe.list' (by simp [a]; done) (by simp [a]; done))
      | (exact AvLe.eq (by simp [a]; done) rfl)
  · replace h := isnil_t (b rfl) h
    simp only [reduceCtorEq, if_true, if_false, Bool.not_true, Bool.not_false]
    refine regv_nil ?_
    refine Wp.cond true (by first | (simp [] <;> omega)) (fun _ => ?_) (fun h0 => absurd h0 (by decide))
    refine Wp.reg_seq (own := fun _ => false) tt_ok ?_
    iterate 1
      refine regv_pure (s1 := ?_) rfl rfl ?_ ?_ ?_
      rotate_left
      · simp []; rfl
      · first | (simp [] <;> omega) | skip
    refine regv_nil ?_
    cases h
    refine Wp.ret (endQ_ret0 rfl ?_)
    repeat' first | exact All2.nil | refine All2.cons ?_ ?_ | refine AvLe.tups ?_ | refine AvLe.aggs ?_
    all_goals first
      | (exact AvLe.refl _ rfl)
      | (exact AvLe.nil _)
      | (exact AvLe.znil _)
      | (exact AvLe.ghost _ rfl)
      | (exact AvLe.zghost _ rfl)
      | (exact AvLe.sl' rfl (by simp []; done) (by simp []; done))
      | (exact AvLe.frz' rfl rfl rfl (by simp []; done) (by simp []; done) (by simp []; done))
      | (exact AvLe.list' (by simp []; done) (by simp []; done))
      | (exact AvLe.eq (by simp []; done) rfl)

theorem con_state_Clone {n : Nat} {st0 : ApiState} {r : ApiState} (h : state_Clone n st0 = some r) : Con Try.prog 29 [.agg (cApiState st0)] (.agg (cApiState r)) [] := by
  refine con_of (T := TT0) tt_ok Try.func29 (c := _) (by unfold Try.f29; rfl) Try.ntmps29 (rs := [.cell 2 36]) (by rw [Try.results29]) (by unfold Try.f29; rfl) (by simp) ?_
  simp only [argsCh]
  dsimp only [state_Clone] at h
  refine Wp.reg_seq (own := fun _ => false) tt_ok ?_
  iterate 2
    refine regv_pure (s1 := ?_) rfl rfl ?_ ?_ ?_
    rotate_left
    · simp []; rfl
    · first | (simp [] <;> omega) | skip
  refine regv_nil ?_
  refine Wp.drawn (own := fun _ => false) tt_ok mixed [0] (by decide +kernel) trivial ?_
  refine regI_upto 2 (r := ?_) ?_ ?_ ?_
  rotate_left
  · simp [List.range, List.range.loop]; rfl
  · first | (simp [] <;> omega) | skip
  obtain ⟨e, a, h⟩ := obind h
  refine regI_call2 (s1 := ?_) (p := ?_) (con_slices_Clone_bool a) rfl rfl rfl rfl ?_ ?_ ?_ (fun _ => rfl) ?_ rfl ?_ ?_
  rotate_left 2
  · simp []; rfl
  · first | exact .inl rfl | (refine .inl ?_; simp []; done) | (refine .inr ?_; dsimp only; repeat' first | exact All2.nil | refine All2.cons ?_ ?_) <;> first | exact AvLe.refl _ rfl | exact AvLe.nil _ | exact AvLe.znil _ | exact AvLe.list' (by simp []; done) (by simp []; done) | exact AvLe.eq (by simp []; done) rfl
  · first | (simp [] <;> omega) | skip
  · simp
  · simp []; rfl
  refine regI_upto 2 (r := ?_) ?_ ?_ ?_
  rotate_left
  · simp [List.range, List.range.loop]; rfl
  · first | (simp [] <;> omega) | skip
  obtain ⟨f, b, h⟩ := obind h
  refine regI_call2 (s1 := ?_) (p := ?_) (con_slices_Clone_bool b) rfl rfl rfl rfl ?_ ?_ ?_ (fun _ => rfl) ?_ rfl ?_ ?_
  rotate_left 2
  · simp []; rfl
  · first | exact .inl rfl | (refine .inl ?_; simp []; done) | (refine .inr ?_; dsimp only; repeat' first | exact All2.nil | refine All2.cons ?_ ?_) <;> first | exact AvLe.refl _ rfl | exact AvLe.nil _ | exact AvLe.znil _ | exact AvLe.list' (by simp []; done) (by simp []; done) | exact AvLe.eq (by simp []; done) rfl
  · first | (simp [] <;> omega) | skip
  · simp
  · simp []; rfl
  refine regI_upto 2 (r := ?_) ?_ ?_ ?_
  rotate_left
  · simp [List.range, List.range.loop]; rfl
  · first | (simp [] <;> omega) | skip
  obtain ⟨g, d, h⟩ := obind h
  refine regI_call2 (s1 := ?_) (p := ?_) (con_slices_Clone_bool d) rfl rfl rfl rfl ?_ ?_ ?_ (fun _ => rfl) ?_ rfl ?_ ?_
  rotate_left 2
  · simp []; rfl
  · first | exact .inl rfl | (refine .inl ?_; simp []; done) | (refine .inr ?_; dsimp only; repeat' first | exact All2.nil | refine All2.cons ?_ ?_) <;> first | exact AvLe.refl _ rfl | exact AvLe.nil _ | exact AvLe.znil _ | exact AvLe.list' (by simp []; done) (by simp []; done) | exact AvLe.eq (by simp []; done) rfl
  · first | (simp [] <;> omega) | skip
  · simp
  · simp []; rfl
  refine regI_upto 1 (r := ?_) ?_ ?_ ?_
  rotate_left
  · simp [List.range, List.range.loop]; rfl
  · first | (simp [] <;> omega) | skip
  refine regI_bar (r := ?_) tt_ok rfl rfl rfl rfl ?_ ?_ ?_
  rotate_left
  · simp []; rfl
  · first | (simp [] <;> omega) | skip
  refine regI_nil ?_
  cases h
  refine Wp.ret (endQ_ret0 rfl ?_)
  repeat' first | exact All2.nil | refine All2.cons ?_ ?_ | refine AvLe.tups ?_ | refine AvLe.aggs ?_
  all_goals first
    | (exact AvLe.refl _ rfl)
    | (exact AvLe.nil _)
    | (exact AvLe.znil _)
    | (exact AvLe.ghost _ rfl)
    | (exact AvLe.zghost _ rfl)
    | (exact AvLe.sl' rfl (by simp []; done) (by simp []; done))
    | (exact AvLe.frz' rfl rfl rfl (by simp []; done) (by simp []; done) (by simp []; done))
    | (exact AvLe.list' (by simp []; done) (by simp []; done))
    | (exact AvLe.eq (by simp []; done) rfl)

theorem con_image_is {n : Nat} {l0 : List Bool} {n_1 : Int} {r : Bool} (h : image_is n l0 n_1 = some r) : Con Try.prog 42 [aL cB l0, .int .i64 n_1] (.bool r) [] := by
  refine con_of (T := TT0) tt_ok Try.func42 (c := _) (by unfold Try.f42; rfl) Try.ntmps42 (rs := [.tmp 4]) (by rw [Try.results42]) (by unfold Try.f42; rfl) (by simp) ?_
  simp only [argsCh]
  dsimp only [image_is] at h
  refine Wp.reg_seq (own := fun _ => false) tt_ok ?_
  iterate 1
    refine regv_pure (s1 := ?_) rfl rfl ?_ ?_ ?_
    rotate_left
    · simp []; rfl
    · first | (simp [] <;> omega) | skip
  refine regv_nil ?_
  refine Wp.reg_seq (own := fun _ => false) tt_ok ?_
  iterate 3
    refine regv_pure (s1 := ?_) rfl rfl ?_ ?_ ?_
    rotate_left
    · simp []; rfl
    · first | (simp [] <;> omega) | skip
  refine (Decidable.em (n_1 ≥ 0)).symm.elim (fun hb1 => ?_) (fun hb1 => ?_)
  · rw [if_neg (by simpa using hb1)] at h
    refine regv_skip (s1 := ?_) ?_ ?_ ?_
    rotate_left
    · simp [hb1]; done
    · simp [hb1]; rfl
    refine regv_skip (s1 := ?_) ?_ ?_ ?_
    rotate_left
    · simp [hb1]; done
    · simp [hb1]; rfl
    refine regv_skip (s1 := ?_) ?_ ?_ ?_
    rotate_left
    · simp [hb1]; done
    · simp [hb1]; rfl
    refine regv_skip (s1 := ?_) ?_ ?_ ?_
    rotate_left
    · simp [hb1]; done
    · simp [hb1]; rfl
    iterate 2
      refine regv_pure (s1 := ?_) rfl rfl ?_ ?_ ?_
      rotate_left
      · simp [hb1]; rfl
      · first | (simp [hb1] <;> omega) | (have hq := hb1; simp at hq; simp [hb1, hq]; done) | skip
    refine regv_nil ?_
    cases h
    refine Wp.ret (endQ_ret0 rfl ?_)
    repeat' first | exact All2.nil | refine All2.cons ?_ ?_ | refine AvLe.tups ?_ | refine AvLe.aggs ?_
    all_goals first
      | (exact AvLe.refl _ rfl)
      | (exact AvLe.nil _)
      | (exact AvLe.znil _)
      | (exact AvLe.ghost _ rfl)
      | (exact AvLe.zghost _ rfl)
      | (exact AvLe.sl' rfl (by simp [hb1]; done) (by simp [hb1]; done))
      | (exact AvLe.frz' rfl rfl rfl (by simp [hb1]; done) (by simp [hb1]; done) (by simp [hb1]; done))
      | (exact AvLe.list' (by simp [hb1]; done) (by simp [hb1]; done))
      | (exact AvLe.eq (by simp [hb1]; done) rfl)
  · rw [if_pos (decide_eq_true hb1)] at h
    refine regv_pure (s1 := ?_) rfl ?_ ?_ ?_ ?_
    rotate_left
    · simp [hb1]; done
    · simp [hb1]; rfl
    · first | (simp [hb1] <;> omega) | (have hq := hb1; simp at hq; simp [hb1, hq]; done) | skip
    refine regv_pure (s1 := ?_) rfl ?_ ?_ ?_ ?_
    rotate_left
    · simp [hb1]; done
    · simp [hb1]; rfl
    · first | (simp [hb1] <;> omega) | (have hq := hb1; simp at hq; simp [hb1, hq]; done) | skip
    refine regv_pure (s1 := ?_) rfl ?_ ?_ ?_ ?_
    rotate_left
    · simp [hb1]; done
    · simp [hb1]; rfl
    · first | (simp [hb1] <;> omega) | (have hq := hb1; simp at hq; simp [hb1, hq]; done) | skip
    refine regv_pure (s1 := ?_) rfl ?_ ?_ ?_ ?_
    rotate_left
    · simp [hb1]; done
    · simp [hb1]; rfl
    · first | (simp [hb1] <;> omega) | (have hq := hb1; simp at hq; simp [hb1, hq]; done) | skip
    iterate 2
      refine regv_pure (s1 := ?_) rfl rfl ?_ ?_ ?_
      rotate_left
      · simp [hb1]; rfl
      · first | (simp [hb1] <;> omega) | (have hq := hb1; simp at hq; simp [hb1, hq]; done) | skip
    refine regv_nil ?_
    cases h
    refine Wp.ret (endQ_ret0 rfl ?_)
    repeat' first | exact All2.nil | refine All2.cons ?_ ?_ | refine AvLe.tups ?_ | refine AvLe.aggs ?_
    all_goals first
      | (exact AvLe.refl _ rfl)
      | (exact AvLe.nil _)
      | (exact AvLe.znil _)
      | (exact AvLe.ghost _ rfl)
      | (exact AvLe.zghost _ rfl)
      | (exact AvLe.sl' rfl (by simp [hb1]; done) (by simp [hb1]; done))
      | (exact AvLe.frz' rfl rfl rfl (by simp [hb1]; done) (by simp [hb1]; done) (by simp [hb1]; done))
      | (exact AvLe.list' (by simp [hb1]; done) (by simp [hb1]; done))
      | (exact AvLe.eq (by simp [hb1]; done) rfl)

theorem con_image_Set {n : Nat} {l0 : List Bool} {n_1 : Int} {v2 : Bool} {r : (List Bool) × Int} (h : image_Set n l0 n_1 v2 = some r) : Con Try.prog 40 [aL cB l0, .int .i64 n_1, .bool v2] (.tup [aL cB r.1, .int .i64 r.2]) [] := by
  refine con_of (T := TT0) tt_ok Try.func40 (c := _) (by unfold Try.f40; rfl) Try.ntmps40 (rs := [.tmp 6, .tmp 7]) (by rw [Try.results40]) (by unfold Try.f40; rfl) (by simp) ?_
  simp only [argsCh]
  dsimp only [image_Set] at h
  refine Wp.reg_seq (own := fun _ => false) tt_ok ?_
  iterate 2
    refine regv_pure (s1 := ?_) rfl rfl ?_ ?_ ?_
    rotate_left
    · simp []; rfl
    · first | (simp [] <;> omega) | skip
  refine regv_nil ?_
  refine Wp.seq ?_
  refine Wp.reg_seq (own := fun _ => false) tt_ok ?_
  iterate 2
    refine regv_pure (s1 := ?_) rfl rfl ?_ ?_ ?_
    rotate_left
    · simp []; rfl
    · first | (simp [] <;> omega) | skip
  obtain ⟨ac, aa, h⟩ := obind h
  refine regv_call2 (s' := ?_) (p := ?_) (con_image_is aa) rfl rfl rfl rfl ?_ ?_ ?_ ?_ ?_ ?_
  rotate_left 2
  · simp []; rfl
  · first | exact .inl rfl | (refine .inl ?_; simp []; done) | (refine .inr ?_; dsimp only; repeat' first | exact All2.nil | refine All2.cons ?_ ?_) <;> first | exact AvLe.refl _ rfl | exact AvLe.nil _ | exact AvLe.znil _ | exact AvLe.list' (by simp []; done) (by simp []; done) | exact AvLe.eq (by simp []; done) rfl
  · first | (simp [] <;> omega) | skip
  · simp
  · simp []; rfl
  iterate 1
    refine regv_pure (s1 := ?_) rfl rfl ?_ ?_ ?_
    rotate_left
    · simp []; rfl
    · first | (simp [] <;> omega) | skip
  refine regv_nil ?_
  cases a : (!ac)
  · rw [a, if_neg (by simp)] at h
    refine Wp.cond false (by first | (simp [a] <;> omega) | (have hq := a; simp at hq; simp [a, hq]; done)) (fun h0 => absurd h0 (by decide)) (fun _ => ?_)
    refine Wp.skip ?_
    show Wp _ _ _ _
    refine Wp.reg_seq (own := fun _ => false) tt_ok ?_
    iterate 2
      refine regv_pure (s1 := ?_) rfl rfl ?_ ?_ ?_
      rotate_left
      · simp [a]; rfl
      · first | (simp [a] <;> omega) | (have hq := a; simp at hq; simp [a, hq]; done) | skip
    obtain ⟨⟨d, e, b⟩, h⟩ := oguard h
    iterate 1
      refine regv_pure (s1 := ?_) rfl rfl ?_ ?_ ?_
      rotate_left
      · simp [a, d, e, b]; rfl
      · first | (simp [a, d, e, b] <;> omega) | (have hq := b; simp at hq; simp [a, d, e, b, hq]; done) | skip
    obtain ⟨ad, w, h⟩ := obind h
    have g := congrArg (List.map cB) (Option.some.inj w)
    have f := (congrArg List.length (Option.some.inj w)).symm
    try simp [a, d, e, b] at g
    try simp [a, d, e, b] at f
    clear w
    try simp only [g]
    iterate 1
      refine regv_pure (s1 := ?_) rfl rfl ?_ ?_ ?_
      rotate_left
      · simp [a, d, e, b, g, f]; rfl
      · first | (simp [a, d, e, b, g, f] <;> omega) | (have hq := f; simp at hq; simp [a, d, e, b, g, f, hq]; done) | skip
    refine regv_nil ?_
    refine Wp.reg_seq (own := fun _ => false) tt_ok ?_
    iterate 3
      refine regv_pure (s1 := ?_) rfl rfl ?_ ?_ ?_
      rotate_left
      · simp [a, d, e, b, g, f]; rfl
      · first | (simp [a, d, e, b, g, f] <;> omega) | (have hq := f; simp at hq; simp [a, d, e, b, g, f, hq]; done) | skip
    obtain ⟨ae, y, h⟩ := obind h
    have i := congrArg (List.map cB) (Option.some.inj y)
    have j := (congrArg List.length (Option.some.inj y)).symm
    try simp [a, d, e, b, g, f] at i
    try simp [a, d, e, b, g, f] at j
    clear y
    try simp only [i]
    refine regv_nil ?_
    refine Wp.reg_seq (own := fun _ => false) tt_ok ?_
    iterate 3
      refine regv_pure (s1 := ?_) rfl rfl ?_ ?_ ?_
      rotate_left
      · simp [a, d, e, b, g, f, i, j]; rfl
      · first | (simp [a, d, e, b, g, f, i, j] <;> omega) | (have hq := j; simp at hq; simp [a, d, e, b, g, f, i, j, hq]; done) | skip
    obtain ⟨af, ab, h⟩ := obind h
    obtain ⟨q, m, k⟩ := atI_some ab
    try simp [a, d, e, b, g, f, i, j] at m
    try simp only [Int.toNat_natCast, Int.reduceToNat, Nat.zero_add, Nat.add_zero] at k
    have o := getElem_of k
    iterate 2
      refine regv_pure (s1 := ?_) rfl rfl ?_ ?_ ?_
      rotate_left
      · simp [a, d, e, b, g, f, i, j, q, m, k, o]; rfl
      · first | (simp [a, d, e, b, g, f, i, j, q, m, k, o] <;> omega) | (have hq := o; simp at hq; simp [a, d, e, b, g, f, i, j, q, m, k, o, hq]; done) | skip
    obtain ⟨ag, z, h⟩ := obind h
    have u := congrArg (List.map cB) (Option.some.inj z)
    have v := (congrArg List.length (Option.some.inj z)).symm
    try simp [a, d, e, b, g, f, i, j, q, m, k, o] at u
    try simp [a, d, e, b, g, f, i, j, q, m, k, o] at v
    clear z
    try simp only [u]
    refine regv_nil ?_
    refine Wp.reg_seq (own := fun _ => false) tt_ok ?_
    iterate 3
      refine regv_pure (s1 := ?_) rfl rfl ?_ ?_ ?_
      rotate_left
      · simp [a, d, e, b, g, f, i, j, q, m, k, o, u, v]; rfl
      · first | (simp [a, d, e, b, g, f, i, j, q, m, k, o, u, v] <;> omega) | (have hq := v; simp at hq; simp [a, d, e, b, g, f, i, j, q, m, k, o, u, v, hq]; done) | skip
    refine regv_nil ?_
    cases h
    refine Wp.ret (endQ_ret0 rfl ?_)
    repeat' first | exact All2.nil | refine All2.cons ?_ ?_ | refine AvLe.tups ?_ | refine AvLe.aggs ?_
    all_goals first
      | (exact AvLe.refl _ rfl)
      | (exact AvLe.nil _)
      | (exact AvLe.znil _)
      | (exact AvLe.ghost _ rfl)
      | (exact AvLe.zghost _ rfl)
      | (exact AvLe.sl' rfl (by simp [a, d, e, b, g, f, i, j, q, m, k, o, u, v]; done) (by simp [a, d, e, b, g, f, i, j, q, m, k, o, u, v]; done))
      | (exact AvLe.frz' rfl rfl rfl (by simp [a, d, e, b, g, f, i, j, q, m, k, o, u, v]; done) (by simp [a, d, e, b, g, f, i, j, q, m, k, o, u, v]; done) (by simp [a, d, e, b, g, f, i, j, q, m, k, o, u, v]; done))
      | (exact AvLe.list' (by simp [a, d, e, b, g, f, i, j, q, m, k, o, u, v]; done) (by simp [a, d, e, b, g, f, i, j, q, m, k, o, u, v]; done))
      | (exact AvLe.eq (by simp [a, d, e, b, g, f, i, j, q, m, k, o, u, v]; done) rfl)
  · rw [a, if_pos rfl] at h
    refine Wp.cond true (by first | (simp [a] <;> omega) | (have hq := a; simp at hq; simp [a, hq]; done)) (fun _ => ?_) (fun h0 => absurd h0 (by decide))
    refine Wp.reg_seq (own := fun _ => false) tt_ok ?_
    iterate 2
      refine regv_pure (s1 := ?_) rfl rfl ?_ ?_ ?_
      rotate_left
      · simp [a]; rfl
      · first | (simp [a] <;> omega) | (have hq := a; simp at hq; simp [a, hq]; done) | skip
    refine regv_nil ?_
    cases h
    refine Wp.ret (endQ_ret0 rfl ?_)
    repeat' first | exact All2.nil | refine All2.cons ?_ ?_ | refine AvLe.tups ?_ | refine AvLe.aggs ?_
    all_goals first
      | (exact AvLe.refl _ rfl)
      | (exact AvLe.nil _)
      | (exact AvLe.znil _)
      | (exact AvLe.ghost _ rfl)
      | (exact AvLe.zghost _ rfl)
      | (exact AvLe.sl' rfl (by simp [a]; done) (by simp [a]; done))
      | (exact AvLe.frz' rfl rfl rfl (by simp [a]; done) (by simp [a]; done) (by simp [a]; done))
      | (exact AvLe.list' (by simp [a]; done) (by simp [a]; done))
      | (exact AvLe.eq (by simp [a]; done) rfl)

def state_Write_S1 (n : Nat) (e : ApiState) (g : List Bool) (f : Int) (i : List Bool) : St :=
  { ch := [(6, .hptr 0 0 0), (8, .hptr 1 0 0), (9, .int .i64 f)], hp := [.var [.nilsl, .nilsl, .nilsl], .var [aL cB g, aL cB i, aL cB e.E]], base := 0, n := 43, cond := True }

theorem con_state_Write {n : Nat} {st0 : ApiState} {a1 : ApiAddr} {v2 : Bool} {r : ApiState × Int} (h : state_Write n st0 a1 v2 = some r) : Con Try.prog 31 [.agg (cApiState st0), .agg (cApiAddr a1), .bool v2] (.tup [.agg (cApiState r.1), .int .i64 r.2]) [] := by
  refine con_of (T := TT0) tt_ok Try.func31 (c := _) (by unfold Try.f31; rfl) Try.ntmps31 (rs := [.cell 6 36, .tmp 7]) (by rw [Try.results31]) (by unfold Try.f31; rfl) (by simp) ?_
  simp only [argsCh]
  dsimp only [state_Write] at h
  refine Wp.reg_seq (own := fun _ => false) tt_ok ?_
  iterate 4
    refine regv_pure (s1 := ?_) rfl rfl ?_ ?_ ?_
    rotate_left
    · simp []; rfl
    · first | (simp [] <;> omega) | skip
  refine regv_nil ?_
  refine Wp.reg_seq (own := fun _ => false) tt_ok ?_
  iterate 1
    refine regv_pure (s1 := ?_) rfl rfl ?_ ?_ ?_
    rotate_left
    · simp []; rfl
    · first | (simp [] <;> omega) | skip
  obtain ⟨e, j, h⟩ := obind h
  refine regv_call2 (s' := ?_) (p := ?_) (con_state_Clone j) rfl rfl rfl rfl ?_ ?_ ?_ ?_ ?_ ?_
  rotate_left 2
  · simp []; rfl
  · first | exact .inl rfl | (refine .inl ?_; simp []; done) | (refine .inr ?_; dsimp only; repeat' first | exact All2.nil | refine All2.cons ?_ ?_) <;> first | exact AvLe.refl _ rfl | exact AvLe.nil _ | exact AvLe.znil _ | exact AvLe.list' (by simp []; done) (by simp []; done) | exact AvLe.eq (by simp []; done) rfl
  · first | (simp [] <;> omega) | skip
  · simp
  · simp []; rfl
  iterate 2
    refine regv_pure (s1 := ?_) rfl rfl ?_ ?_ ?_
    rotate_left
    · simp []; rfl
    · first | (simp [] <;> omega) | skip
  refine regv_nil ?_
  refine Wp.reg_seq (own := fun _ => false) tt_ok ?_
  iterate 1
    refine regv_pure (s1 := ?_) rfl rfl ?_ ?_ ?_
    rotate_left
    · simp []; rfl
    · first | (simp [] <;> omega) | skip
  refine regv_nil ?_
  refine Wp.join (α := (List Bool) × Int × (List Bool)) (fun x => state_Write_S1 n e x.1 x.2.1 x.2.2) (fun x => state_Write_J1 e x.1 x.2.1 x.2.2 = some r) ?_ ?_
  · clear h
    rintro ⟨g, f, i⟩ h
    simp only [state_Write_S1]
    dsimp only [state_Write_J1] at h
    refine Wp.seq ?_
    refine Wp.reg_seq (own := fun _ => false) tt_ok ?_
    iterate 2
      refine regv_pure (s1 := ?_) rfl rfl ?_ ?_ ?_
      rotate_left
      · simp []; rfl
      · first | (simp [] <;> omega) | skip
    refine regv_nil ?_
    cases d : (f != 0)
    · rw [d, if_neg (by simp)] at h
      refine Wp.cond false (by first | (simp [d] <;> omega) | (have hq := d; simp at hq; simp [d, hq]; done)) (fun h0 => absurd h0 (by decide)) (fun _ => ?_)
      refine Wp.skip ?_
      show Wp _ _ _ _
      refine Wp.reg_seq (own := fun _ => false) tt_ok ?_
      iterate 3
        refine regv_pure (s1 := ?_) rfl rfl ?_ ?_ ?_
        rotate_left
        · simp [d]; rfl
        · first | (simp [d] <;> omega) | (have hq := d; simp at hq; simp [d, hq]; done) | skip
      refine regv_nil ?_
      cases h
      refine Wp.ret (endQ_ret0 rfl ?_)
      repeat' first | exact All2.nil | refine All2.cons ?_ ?_ | refine AvLe.tups ?_ | refine AvLe.aggs ?_
      all_goals first
        | (exact AvLe.refl _ rfl)
        | (exact AvLe.nil _)
        | (exact AvLe.znil _)
        | (exact AvLe.ghost _ rfl)
        | (exact AvLe.zghost _ rfl)
        | (exact AvLe.sl' rfl (by simp [d]; done) (by simp [d]; done))
        | (exact AvLe.frz' rfl rfl rfl (by simp [d]; done) (by simp [d]; done) (by simp [d]; done))
        | (exact AvLe.list' (by simp [d]; done) (by simp [d]; done))
        | (exact AvLe.eq (by simp [d]; done) rfl)
    · rw [d, if_pos rfl] at h
      refine Wp.cond true (by first | (simp [d] <;> omega) | (have hq := d; simp at hq; simp [d, hq]; done)) (fun _ => ?_) (fun h0 => absurd h0 (by decide))
      refine Wp.reg_seq (own := fun _ => false) tt_ok ?_
      iterate 4
        refine regv_pure (s1 := ?_) rfl rfl ?_ ?_ ?_
        rotate_left
        · simp [d]; rfl
        · first | (simp [d] <;> omega) | (have hq := d; simp at hq; simp [d, hq]; done) | skip
      refine regv_nil ?_
      cases h
      refine Wp.ret (endQ_ret0 rfl ?_)
      repeat' first | exact All2.nil | refine All2.cons ?_ ?_ | refine AvLe.tups ?_ | refine AvLe.aggs ?_
      all_goals first
        | (exact AvLe.refl _ rfl)
        | (exact AvLe.nil _)
        | (exact AvLe.znil _)
        | (exact AvLe.ghost _ rfl)
        | (exact AvLe.zghost _ rfl)
        | (exact AvLe.sl' rfl (by simp [d]; done) (by simp [d]; done))
        | (exact AvLe.frz' rfl rfl rfl (by simp [d]; done) (by simp [d]; done) (by simp [d]; done))
        | (exact AvLe.list' (by simp [d]; done) (by simp [d]; done))
        | (exact AvLe.eq (by simp [d]; done) rfl)
  · skip
    refine Wp.reg_seq (own := fun _ => false) tt_ok ?_
    iterate 2
      refine regv_pure (s1 := ?_) rfl rfl ?_ ?_ ?_
      rotate_left
      · simp []; rfl
      · first | (simp [] <;> omega) | skip
    refine regv_nil ?_
    refine Wp.block ?_
    refine Wp.reg_seq (own := fun _ => false) tt_ok ?_
    iterate 2
      refine regv_pure (s1 := ?_) rfl rfl ?_ ?_ ?_
      rotate_left
      · simp []; rfl
      · first | (simp [] <;> omega) | skip
    refine regv_nil ?_
    cases a : (a1.Space == 1)
    · rw [a, if_neg (by simp)] at h
      refine Wp.cond false (by first | (simp [a] <;> omega) | (have hq := a; simp at hq; simp [a, hq]; done)) (fun h0 => absurd h0 (by decide)) (fun _ => ?_)
      refine Wp.reg_seq (own := fun _ => false) tt_ok ?_
      iterate 2
        refine regv_pure (s1 := ?_) rfl rfl ?_ ?_ ?_
        rotate_left
        · simp [a]; rfl
        · first | (simp [a] <;> omega) | (have hq := a; simp at hq; simp [a, hq]; done) | skip
      refine regv_nil ?_
      cases b : (a1.Space == 2)
      · rw [b, if_neg (by simp)] at h
        refine Wp.cond false (by first | (simp [a, b] <;> omega) | (have hq := b; simp at hq; simp [a, b, hq]; done)) (fun h0 => absurd h0 (by decide)) (fun _ => ?_)
        refine Wp.reg (own := fun _ => false) tt_ok ?_
        iterate 1
          refine regv_pure (s1 := ?_) rfl rfl ?_ ?_ ?_
          rotate_left
          · simp [a, b]; rfl
          · first | (simp [a, b] <;> omega) | (have hq := b; simp at hq; simp [a, b, hq]; done) | skip
        refine regv_nil ?_
        refine next_mk (e.Q, 8, e.M) h ?_
        refine Reloc.mk2 [some 2, some 3] rfl rfl rfl (by decide) ?_ ?_
        · repeat' first | exact objsLe_nil | refine objsLe_cons ?_ ?_
          all_goals first
            | exact trivial
            | (refine ObjLe.var' rfl rfl ?_ rfl
               repeat' first | exact All2.nil | refine All2.cons ?_ ?_
               all_goals first | (exact AvLe.refl _ rfl) | (exact AvLe.sl _ _ _ _ rfl) | (exact AvLe.hptr _ _ _ _ rfl) | (exact AvLe.mp _ _ rfl) | (exact AvLe.nil _) | (exact AvLe.znil _) | (exact AvLe.ghost _ rfl) | (exact AvLe.zghost _ rfl) | (exact AvLe.sl' rfl (by simp [a, b]; done) (by first | (simp [a, b] <;> omega) | omega)) | (exact AvLe.frz2 rfl (by simp) rfl (by simp [a, b]; done) (by simp [a, b]; done) (by simp [a, b]; done)) | (exact AvLe.list' (by simp [a, b]; done) (by simp [a, b]; done)) | (exact AvLe.eq (by simp [a, b]; done) rfl))
            | (exact ObjLe.map' rfl rfl)
            | (exact ObjLe.ghost' rfl (by decide))
            | (exact ObjLe.arr' rfl rfl (by first | (simp [a, b] <;> omega)) (fun _ _ => by first | rfl | (simp [a, b]; done)))
            | ((simp [a, b]; done))
        · repeat' first | exact chLe_nil | refine chLe_cons ?_ ?_
          all_goals first
            | (exact AvLe.refl _ rfl)
            | (exact AvLe.sl _ _ _ _ rfl)
            | (exact AvLe.hptr _ _ _ _ rfl)
            | (exact AvLe.mp _ _ rfl)
            | (exact AvLe.nil _)
            | (exact AvLe.znil _)
            | (exact AvLe.ghost _ rfl)
            | (exact AvLe.zghost _ rfl)
            | (exact AvLe.sl' rfl (by simp [a, b]; done) (by first | (simp [a, b] <;> omega) | omega))
            | (exact AvLe.frz2 rfl (by simp) rfl (by simp [a, b]; done) (by simp [a, b]; done) (by simp [a, b]; done))
            | (exact AvLe.list' (by simp [a, b]; done) (by simp [a, b]; done))
            | (exact AvLe.eq (by simp [a, b]; done) rfl)
      · rw [b, if_pos rfl] at h
        refine Wp.cond true (by first | (simp [a, b] <;> omega) | (have hq := b; simp at hq; simp [a, b, hq]; done)) (fun _ => ?_) (fun h0 => absurd h0 (by decide))
        refine Wp.reg (own := fun _ => false) tt_ok ?_
        iterate 5
          refine regv_pure (s1 := ?_) rfl rfl ?_ ?_ ?_
          rotate_left
          · simp [a, b]; rfl
          · first | (simp [a, b] <;> omega) | (have hq := b; simp at hq; simp [a, b, hq]; done) | skip
        obtain ⟨⟨o, q⟩, k, h⟩ := obind h
        dsimp only at h
        refine regv_call2 (s' := ?_) (p := ?_) (con_image_Set k) rfl rfl rfl rfl ?_ ?_ ?_ ?_ ?_ ?_
        rotate_left 2
        · simp [a, b]; rfl
        · first | exact .inl rfl | (refine .inl ?_; simp [a, b]; done) | (refine .inr ?_; dsimp only; repeat' first | exact All2.nil | refine All2.cons ?_ ?_) <;> first | exact AvLe.refl _ rfl | exact AvLe.nil _ | exact AvLe.znil _ | exact AvLe.list' (by simp [a, b]; done) (by simp [a, b]; done) | exact AvLe.eq (by simp [a, b]; done) rfl
        · first | (simp [a, b] <;> omega) | (have hq := b; simp at hq; simp [a, b, hq]; done) | skip
        · simp
        · simp [a, b]; rfl
        iterate 6
          refine regv_pure (s1 := ?_) rfl rfl ?_ ?_ ?_
          rotate_left
          · simp [a, b]; rfl
          · first | (simp [a, b] <;> omega) | (have hq := b; simp at hq; simp [a, b, hq]; done) | skip
        refine regv_nil ?_
        refine next_mk (e.Q, q, o) h ?_
        refine Reloc.mk2 [some 2, some 3] rfl rfl rfl (by decide) ?_ ?_
        · repeat' first | exact objsLe_nil | refine objsLe_cons ?_ ?_
          all_goals first
            | exact trivial
            | (refine ObjLe.var' rfl rfl ?_ rfl
               repeat' first | exact All2.nil | refine All2.cons ?_ ?_
               all_goals first | (exact AvLe.refl _ rfl) | (exact AvLe.sl _ _ _ _ rfl) | (exact AvLe.hptr _ _ _ _ rfl) | (exact AvLe.mp _ _ rfl) | (exact AvLe.nil _) | (exact AvLe.znil _) | (exact AvLe.ghost _ rfl) | (exact AvLe.zghost _ rfl) | (exact AvLe.sl' rfl (by simp [a, b]; done) (by first | (simp [a, b] <;> omega) | omega)) | (exact AvLe.frz2 rfl (by simp) rfl (by simp [a, b]; done) (by simp [a, b]; done) (by simp [a, b]; done)) | (exact AvLe.list' (by simp [a, b]; done) (by simp [a, b]; done)) | (exact AvLe.eq (by simp [a, b]; done) rfl))
            | (exact ObjLe.map' rfl rfl)
            | (exact ObjLe.ghost' rfl (by decide))
            | (exact ObjLe.arr' rfl rfl (by first | (simp [a, b] <;> omega)) (fun _ _ => by first | rfl | (simp [a, b]; done)))
            | ((simp [a, b]; done))
        · repeat' first | exact chLe_nil | refine chLe_cons ?_ ?_
          all_goals first
            | (exact AvLe.refl _ rfl)
            | (exact AvLe.sl _ _ _ _ rfl)
            | (exact AvLe.hptr _ _ _ _ rfl)
            | (exact AvLe.mp _ _ rfl)
            | (exact AvLe.nil _)
            | (exact AvLe.znil _)
            | (exact AvLe.ghost _ rfl)
            | (exact AvLe.zghost _ rfl)
            | (exact AvLe.sl' rfl (by simp [a, b]; done) (by first | (simp [a, b] <;> omega) | omega))
            | (exact AvLe.frz2 rfl (by simp) rfl (by simp [a, b]; done) (by simp [a, b]; done) (by simp [a, b]; done))
            | (exact AvLe.list' (by simp [a, b]; done) (by simp [a, b]; done))
            | (exact AvLe.eq (by simp [a, b]; done) rfl)
    · rw [a, if_pos rfl] at h
      refine Wp.cond true (by first | (simp [a] <;> omega) | (have hq := a; simp at hq; simp [a, hq]; done)) (fun _ => ?_) (fun h0 => absurd h0 (by decide))
      refine Wp.reg (own := fun _ => false) tt_ok ?_
      iterate 5
        refine regv_pure (s1 := ?_) rfl rfl ?_ ?_ ?_
        rotate_left
        · simp [a]; rfl
        · first | (simp [a] <;> omega) | (have hq := a; simp at hq; simp [a, hq]; done) | skip
      obtain ⟨⟨u, v⟩, m, h⟩ := obind h
      dsimp only at h
      refine regv_call2 (s' := ?_) (p := ?_) (con_image_Set m) rfl rfl rfl rfl ?_ ?_ ?_ ?_ ?_ ?_
      rotate_left 2
      · simp [a]; rfl
      · first | exact .inl rfl | (refine .inl ?_; simp [a]; done) | (refine .inr ?_; dsimp only; repeat' first | exact All2.nil | refine All2.cons ?_ ?_) <;> first | exact AvLe.refl _ rfl | exact AvLe.nil _ | exact AvLe.znil _ | exact AvLe.list' (by simp [a]; done) (by simp [a]; done) | exact AvLe.eq (by simp [a]; done) rfl
      · first | (simp [a] <;> omega) | (have hq := a; simp at hq; simp [a, hq]; done) | skip
      · simp
      · simp [a]; rfl
      iterate 6
        refine regv_pure (s1 := ?_) rfl rfl ?_ ?_ ?_
        rotate_left
        · simp [a]; rfl
        · first | (simp [a] <;> omega) | (have hq := a; simp at hq; simp [a, hq]; done) | skip
      refine regv_nil ?_
      refine next_mk (u, v, e.M) h ?_
      refine Reloc.mk2 [some 2, some 3] rfl rfl rfl (by decide) ?_ ?_
      · repeat' first | exact objsLe_nil | refine objsLe_cons ?_ ?_
        all_goals first
          | exact trivial
          | (refine ObjLe.var' rfl rfl ?_ rfl
             repeat' first | exact All2.nil | refine All2.cons ?_ ?_
             all_goals first | (exact AvLe.refl _ rfl) | (exact AvLe.sl _ _ _ _ rfl) | (exact AvLe.hptr _ _ _ _ rfl) | (exact AvLe.mp _ _ rfl) | (exact AvLe.nil _) | (exact AvLe.znil _) | (exact AvLe.ghost _ rfl) | (exact AvLe.zghost _ rfl) | (exact AvLe.sl' rfl (by simp [a]; done) (by first | (simp [a] <;> omega) | omega)) | (exact AvLe.frz2 rfl (by simp) rfl (by simp [a]; done) (by simp [a]; done) (by simp [a]; done)) | (exact AvLe.list' (by simp [a]; done) (by simp [a]; done)) | (exact AvLe.eq (by simp [a]; done) rfl))
          | (exact ObjLe.map' rfl rfl)
          | (exact ObjLe.ghost' rfl (by decide))
          | (exact ObjLe.arr' rfl rfl (by first | (simp [a] <;> omega)) (fun _ _ => by first | rfl | (simp [a]; done)))
          | ((simp [a]; done))
      · repeat' first | exact chLe_nil | refine chLe_cons ?_ ?_
        all_goals first
          | (exact AvLe.refl _ rfl)
          | (exact AvLe.sl _ _ _ _ rfl)
          | (exact AvLe.hptr _ _ _ _ rfl)
          | (exact AvLe.mp _ _ rfl)
          | (exact AvLe.nil _)
          | (exact AvLe.znil _)
          | (exact AvLe.ghost _ rfl)
          | (exact AvLe.zghost _ rfl)
          | (exact AvLe.sl' rfl (by simp [a]; done) (by first | (simp [a] <;> omega) | omega))
          | (exact AvLe.frz2 rfl (by simp) rfl (by simp [a]; done) (by simp [a]; done) (by simp [a]; done))
          | (exact AvLe.list' (by simp [a]; done) (by simp [a]; done))
          | (exact AvLe.eq (by simp [a]; done) rfl)

theorem con_rungeval_writes {n : Nat} {kind0 : Int} {on1 : Bool} {r : Bool × Bool} (h : rungeval_writes n kind0 on1 = some r) : Con Try.prog 30 [.int .i64 kind0, .bool on1] (.tup [.bool r.1, .bool r.2]) [] := by
  refine con_of (T := TT0) tt_ok Try.func30 (c := _) (by unfold Try.f30; rfl) Try.ntmps30 (rs := [.tmp 4, .tmp 5]) (by rw [Try.results30]) (by unfold Try.f30; rfl) (by simp) ?_
  simp only [argsCh]
  dsimp only [rungeval_writes] at h
  refine Wp.reg_seq (own := fun _ => false) tt_ok ?_
  iterate 2
    refine regv_pure (s1 := ?_) rfl rfl ?_ ?_ ?_
    rotate_left
    · simp []; rfl
    · first | (simp [] <;> omega) | skip
  refine regv_nil ?_
  refine Wp.reg_seq (own := fun _ => false) tt_ok ?_
  iterate 11
    refine regv_pure (s1 := ?_) rfl rfl ?_ ?_ ?_
    rotate_left
    · simp []; rfl
    · first | (simp [] <;> omega) | skip
  by_cases a : kind0 = 0
  · rw [if_pos a] at h
    iterate 3
      refine regv_pure (s1 := ?_) rfl rfl ?_ ?_ ?_
      rotate_left
      · simp [a]; rfl
      · first | (simp [a] <;> omega) | (have hq := a; simp at hq; simp [a, hq]; done) | skip
    refine regv_nil ?_
    refine Wp.drawn (own := fun _ => false) tt_ok mixed [0] (by decide +kernel) trivial ?_
    refine regI_upto 6 (r := ?_) ?_ ?_ ?_
    rotate_left
    · simp [List.range, List.range.loop, a]; rfl
    · first | (simp [a] <;> omega) | (have hq := a; simp at hq; simp [a, hq]; done) | skip
    refine regI_nil ?_
    cases h
    refine Wp.ret (endQ_ret0 rfl ?_)
    repeat' first | exact All2.nil | refine All2.cons ?_ ?_ | refine AvLe.tups ?_ | refine AvLe.aggs ?_
    all_goals first
      | (exact AvLe.refl _ rfl)
      | (exact AvLe.nil _)
      | (exact AvLe.znil _)
      | (exact AvLe.ghost _ rfl)
      | (exact AvLe.zghost _ rfl)
      | (exact AvLe.sl' rfl (by simp [a]; done) (by simp [a]; done))
      | (exact AvLe.frz' rfl rfl rfl (by simp [a]; done) (by simp [a]; done) (by simp [a]; done))
      | (exact AvLe.list' (by simp [a]; done) (by simp [a]; done))
      | (exact AvLe.eq (by simp [a]; done) rfl)
  · rw [if_neg a] at h
    by_cases b : kind0 = 1
    · rw [if_pos b] at h
      iterate 3
        refine regv_pure (s1 := ?_) rfl rfl ?_ ?_ ?_
        rotate_left
        · simp [a, b]; rfl
        · first | (simp [a, b] <;> omega) | (have hq := b; simp at hq; simp [a, b, hq]; done) | skip
      refine regv_nil ?_
      refine Wp.drawn (own := fun _ => false) tt_ok mixed [0] (by decide +kernel) trivial ?_
      refine regI_upto 6 (r := ?_) ?_ ?_ ?_
      rotate_left
      · simp [List.range, List.range.loop, a, b]; rfl
      · first | (simp [a, b] <;> omega) | (have hq := b; simp at hq; simp [a, b, hq]; done) | skip
      refine regI_nil ?_
      cases h
      refine Wp.ret (endQ_ret0 rfl ?_)
      repeat' first | exact All2.nil | refine All2.cons ?_ ?_ | refine AvLe.tups ?_ | refine AvLe.aggs ?_
      all_goals first
        | (exact AvLe.refl _ rfl)
        | (exact AvLe.nil _)
        | (exact AvLe.znil _)
        | (exact AvLe.ghost _ rfl)
        | (exact AvLe.zghost _ rfl)
        | (exact AvLe.sl' rfl (by simp [a, b]; done) (by simp [a, b]; done))
        | (exact AvLe.frz' rfl rfl rfl (by simp [a, b]; done) (by simp [a, b]; done) (by simp [a, b]; done))
        | (exact AvLe.list' (by simp [a, b]; done) (by simp [a, b]; done))
        | (exact AvLe.eq (by simp [a, b]; done) rfl)
    · rw [if_neg b] at h
      by_cases d : kind0 = 2
      · rw [if_pos d] at h
        iterate 3
          refine regv_pure (s1 := ?_) rfl rfl ?_ ?_ ?_
          rotate_left
          · simp [a, b, d]; rfl
          · first | (simp [a, b, d] <;> omega) | (have hq := d; simp at hq; simp [a, b, d, hq]; done) | skip
        refine regv_nil ?_
        refine Wp.drawn (own := fun _ => false) tt_ok mixed [0] (by decide +kernel) trivial ?_
        refine regI_upto 6 (r := ?_) ?_ ?_ ?_
        rotate_left
        · simp [List.range, List.range.loop, a, b, d]; rfl
        · first | (simp [a, b, d] <;> omega) | (have hq := d; simp at hq; simp [a, b, d, hq]; done) | skip
        refine regI_nil ?_
        cases h
        refine Wp.ret (endQ_ret0 rfl ?_)
        repeat' first | exact All2.nil | refine All2.cons ?_ ?_ | refine AvLe.tups ?_ | refine AvLe.aggs ?_
        all_goals first
          | (exact AvLe.refl _ rfl)
          | (exact AvLe.nil _)
          | (exact AvLe.znil _)
          | (exact AvLe.ghost _ rfl)
          | (exact AvLe.zghost _ rfl)
          | (exact AvLe.sl' rfl (by simp [a, b, d]; done) (by simp [a, b, d]; done))
          | (exact AvLe.frz' rfl rfl rfl (by simp [a, b, d]; done) (by simp [a, b, d]; done) (by simp [a, b, d]; done))
          | (exact AvLe.list' (by simp [a, b, d]; done) (by simp [a, b, d]; done))
          | (exact AvLe.eq (by simp [a, b, d]; done) rfl)
      · rw [if_neg d] at h
        by_cases e : kind0 = 3
        · rw [if_pos e] at h
          iterate 3
            refine regv_pure (s1 := ?_) rfl rfl ?_ ?_ ?_
            rotate_left
            · simp [a, b, d, e]; rfl
            · first | (simp [a, b, d, e] <;> omega) | (have hq := e; simp at hq; simp [a, b, d, e, hq]; done) | skip
          refine regv_nil ?_
          refine Wp.drawn (own := fun _ => false) tt_ok mixed [0] (by decide +kernel) trivial ?_
          refine regI_upto 6 (r := ?_) ?_ ?_ ?_
          rotate_left
          · simp [List.range, List.range.loop, a, b, d, e]; rfl
          · first | (simp [a, b, d, e] <;> omega) | (have hq := e; simp at hq; simp [a, b, d, e, hq]; done) | skip
          refine regI_nil ?_
          cases h
          refine Wp.ret (endQ_ret0 rfl ?_)
          repeat' first | exact All2.nil | refine All2.cons ?_ ?_ | refine AvLe.tups ?_ | refine AvLe.aggs ?_
          all_goals first
            | (exact AvLe.refl _ rfl)
            | (exact AvLe.nil _)
            | (exact AvLe.znil _)
            | (exact AvLe.ghost _ rfl)
            | (exact AvLe.zghost _ rfl)
            | (exact AvLe.sl' rfl (by simp [a, b, d, e]; done) (by simp [a, b, d, e]; done))
            | (exact AvLe.frz' rfl rfl rfl (by simp [a, b, d, e]; done) (by simp [a, b, d, e]; done) (by simp [a, b, d, e]; done))
            | (exact AvLe.list' (by simp [a, b, d, e]; done) (by simp [a, b, d, e]; done))
            | (exact AvLe.eq (by simp [a, b, d, e]; done) rfl)
        · rw [if_neg e] at h
          cases h

def rungeval_Coils_S1 (n : Nat) (r_0 : ApiRung) (on2 : Bool) (q : List Bool) (u : List Bool) (v : List Bool) (o : Int) : St :=
  { ch := [(2, .bool on2), (6, .hptr 0 0 0), (8, .hptr 1 0 0), (18, aL cApiCoil r_0.Coils), (19, .int .i64 (r_0.Coils.length : Int)), (20, .int .i64 o)], hp := [.var [.nilsl, .nilsl, .nilsl], .var [aL cB q, aL cB u, aL cB v]], base := 0, n := 56, cond := True }

theorem con_rungeval_Coils {n : Nat} {r_0 : ApiRung} {st1 : ApiState} {on2 : Bool} {r : ApiState × Int} (h : rungeval_Coils n r_0 st1 on2 = some r) : Con Try.prog 19 [.agg (cApiRung r_0), .agg (cApiState st1), .bool on2] (.tup [.agg (cApiState r.1), .int .i64 r.2]) [] := by
  refine con_of (T := TT0) tt_ok Try.func19 (c := _) (by unfold Try.f19; rfl) Try.ntmps19 (rs := [.cell 6 36, .tmp 7]) (by rw [Try.results19]) (by unfold Try.f19; rfl) (by simp) ?_
  simp only [argsCh]
  dsimp only [rungeval_Coils] at h
  refine Wp.reg_seq (own := fun _ => false) tt_ok ?_
  iterate 4
    refine regv_pure (s1 := ?_) rfl rfl ?_ ?_ ?_
    rotate_left
    · simp []; rfl
    · first | (simp [] <;> omega) | skip
  refine regv_nil ?_
  refine Wp.reg_seq (own := fun _ => false) tt_ok ?_
  iterate 1
    refine regv_pure (s1 := ?_) rfl rfl ?_ ?_ ?_
    rotate_left
    · simp []; rfl
    · first | (simp [] <;> omega) | skip
  obtain ⟨w, aa, h⟩ := obind h
  refine regv_call2 (s' := ?_) (p := ?_) (con_state_Clone aa) rfl rfl rfl rfl ?_ ?_ ?_ ?_ ?_ ?_
  rotate_left 2
  · simp []; rfl
  · first | exact .inl rfl | (refine .inl ?_; simp []; done) | (refine .inr ?_; dsimp only; repeat' first | exact All2.nil | refine All2.cons ?_ ?_) <;> first | exact AvLe.refl _ rfl | exact AvLe.nil _ | exact AvLe.znil _ | exact AvLe.list' (by simp []; done) (by simp []; done) | exact AvLe.eq (by simp []; done) rfl
  · first | (simp [] <;> omega) | skip
  · simp
  · simp []; rfl
  iterate 2
    refine regv_pure (s1 := ?_) rfl rfl ?_ ?_ ?_
    rotate_left
    · simp []; rfl
    · first | (simp [] <;> omega) | skip
  refine regv_nil ?_
  refine Wp.seq ?_
  refine Wp.reg_seq (own := fun _ => false) tt_ok ?_
  iterate 4
    refine regv_pure (s1 := ?_) rfl rfl ?_ ?_ ?_
    rotate_left
    · simp []; rfl
    · first | (simp [] <;> omega) | skip
  refine regv_nil ?_
  refine Wp.block ?_
  refine Wp.loopF (α := (List Bool) × (List Bool) × (List Bool) × Int) (fun x => rungeval_Coils_S1 n r_0 on2 x.1 x.2.1 x.2.2.1 x.2.2.2) (fun m x => rungeval_Coils_L1 n r_0 on2 m x.1 x.2.1 x.2.2.1 x.2.2.2 = some r) (fun _ h => by cases h) ?_ n (w.Q, w.M, w.E, 0) h ?_
  rotate_left
  · simp only [rungeval_Coils_S1]
    refine Reloc.mk2 [some 2, some 3] rfl rfl rfl (by decide) ?_ ?_
    · repeat' first | exact objsLe_nil | refine objsLe_cons ?_ ?_
      all_goals first
        | exact trivial
        | (refine ObjLe.var' rfl rfl ?_ rfl
           repeat' first | exact All2.nil | refine All2.cons ?_ ?_
           all_goals first | (exact AvLe.refl _ rfl) | (exact AvLe.sl _ _ _ _ rfl) | (exact AvLe.hptr _ _ _ _ rfl) | (exact AvLe.mp _ _ rfl) | (exact AvLe.nil _) | (exact AvLe.znil _) | (exact AvLe.ghost _ rfl) | (exact AvLe.zghost _ rfl) | (exact AvLe.sl' rfl (by simp []; done) (by first | (simp [] <;> omega) | omega)) | (exact AvLe.frz2 rfl (by simp) rfl (by simp []; done) (by simp []; done) (by simp []; done)) | (exact AvLe.list' (by simp []; done) (by simp []; done)) | (exact AvLe.eq (by simp []; done) rfl))
        | (exact ObjLe.map' rfl rfl)
        | (exact ObjLe.ghost' rfl (by decide))
        | (exact ObjLe.arr' rfl rfl (by first | (simp [] <;> omega)) (fun _ _ => by first | rfl | (simp []; done)))
        | ((simp []; done))
    · repeat' first | exact chLe_nil | refine chLe_cons ?_ ?_
      all_goals first
        | (exact AvLe.refl _ rfl)
        | (exact AvLe.sl _ _ _ _ rfl)
        | (exact AvLe.hptr _ _ _ _ rfl)
        | (exact AvLe.mp _ _ rfl)
        | (exact AvLe.nil _)
        | (exact AvLe.znil _)
        | (exact AvLe.ghost _ rfl)
        | (exact AvLe.zghost _ rfl)
        | (exact AvLe.sl' rfl (by simp []; done) (by first | (simp [] <;> omega) | omega))
        | (exact AvLe.frz2 rfl (by simp) rfl (by simp []; done) (by simp []; done) (by simp []; done))
        | (exact AvLe.list' (by simp []; done) (by simp []; done))
        | (exact AvLe.eq (by simp []; done) rfl)
  rintro rec_n1 ⟨q, u, v, o⟩ h
  simp only [rungeval_Coils_S1]
  dsimp only [rungeval_Coils_L1] at h
  refine Wp.reg_seq (own := fun _ => false) tt_ok ?_
  iterate 1
    refine regv_pure (s1 := ?_) rfl rfl ?_ ?_ ?_
    rotate_left
    · simp []; rfl
    · first | (simp [] <;> omega) | skip
  refine regv_nil ?_
  refine Wp.seq ?_
  refine (Decidable.em (o < (r_0.Coils.length : Int))).symm.elim (fun f => ?_) (fun f => ?_)
  · rw [if_neg (by simpa using f)] at h
    refine Wp.cond false (by first | (simp [f] <;> omega) | (have hq := f; simp at hq; simp [f, hq]; done)) (fun h0 => absurd h0 (by decide)) (fun _ => ?_)
    refine Wp.exit ?_
    show Wp _ _ _ _
    refine Wp.reg_seq (own := fun _ => false) tt_ok ?_
    iterate 3
      refine regv_pure (s1 := ?_) rfl rfl ?_ ?_ ?_
      rotate_left
      · simp [f]; rfl
      · first | (simp [f] <;> omega) | (have hq := f; simp at hq; simp [f, hq]; done) | skip
    refine regv_nil ?_
    cases h
    refine Wp.ret (endQ_ret0 rfl ?_)
    repeat' first | exact All2.nil | refine All2.cons ?_ ?_ | refine AvLe.tups ?_ | refine AvLe.aggs ?_
    all_goals first
      | (exact AvLe.refl _ rfl)
      | (exact AvLe.nil _)
      | (exact AvLe.znil _)
      | (exact AvLe.ghost _ rfl)
      | (exact AvLe.zghost _ rfl)
      | (exact AvLe.sl' rfl (by simp [f]; done) (by simp [f]; done))
      | (exact AvLe.frz' rfl rfl rfl (by simp [f]; done) (by simp [f]; done) (by simp [f]; done))
      | (exact AvLe.list' (by simp [f]; done) (by simp [f]; done))
      | (exact AvLe.eq (by simp [f]; done) rfl)
  · rw [if_pos (decide_eq_true f)] at h
    refine Wp.cond true (by first | (simp [f] <;> omega) | (have hq := f; simp at hq; simp [f, hq]; done)) (fun _ => ?_) (fun h0 => absurd h0 (by decide))
    refine Wp.skip ?_
    show Wp _ _ _ _
    refine Wp.seq ?_
    refine Wp.block ?_
    refine Wp.reg_seq (own := fun _ => false) tt_ok ?_
    obtain ⟨z, ab, h⟩ := obind h
    obtain ⟨e, d, a⟩ := atI_some ab
    try simp [f] at d
    try simp only [Int.toNat_natCast, Int.reduceToNat, Nat.zero_add, Nat.add_zero] at a
    have b := getElem_of a
    iterate 4
      refine regv_pure (s1 := ?_) rfl rfl ?_ ?_ ?_
      rotate_left
      · simp [f, e, d, a, b]; rfl
      · first | (simp [f, e, d, a, b] <;> omega) | (have hq := b; simp at hq; simp [f, e, d, a, b, hq]; done) | skip
    refine regv_nil ?_
    refine Wp.seq ?_
    refine Wp.reg_seq (own := fun _ => false) tt_ok ?_
    iterate 4
      refine regv_pure (s1 := ?_) rfl rfl ?_ ?_ ?_
      rotate_left
      · simp [f, e, d, a, b]; rfl
      · first | (simp [f, e, d, a, b] <;> omega) | (have hq := b; simp at hq; simp [f, e, d, a, b, hq]; done) | skip
    refine (Decidable.em (z.Kind < 0)).symm.elim (fun g => ?_) (fun g => ?_)
    · rw [if_neg (by simpa using g)] at h
      refine regv_pure (s1 := ?_) rfl ?_ ?_ ?_ ?_
      rotate_left
      · simp [f, e, d, a, b, g]; done
      · simp [f, e, d, a, b, g]; rfl
      · first | (simp [f, e, d, a, b, g] <;> omega) | (have hq := g; simp at hq; simp [f, e, d, a, b, g, hq]; done) | skip
      refine regv_pure (s1 := ?_) rfl ?_ ?_ ?_ ?_
      rotate_left
      · simp [f, e, d, a, b, g]; done
      · simp [f, e, d, a, b, g]; rfl
      · first | (simp [f, e, d, a, b, g] <;> omega) | (have hq := g; simp at hq; simp [f, e, d, a, b, g, hq]; done) | skip
      refine regv_pure (s1 := ?_) rfl ?_ ?_ ?_ ?_
      rotate_left
      · simp [f, e, d, a, b, g]; done
      · simp [f, e, d, a, b, g]; rfl
      · first | (simp [f, e, d, a, b, g] <;> omega) | (have hq := g; simp at hq; simp [f, e, d, a, b, g, hq]; done) | skip
      iterate 1
        refine regv_pure (s1 := ?_) rfl rfl ?_ ?_ ?_
        rotate_left
        · simp [f, e, d, a, b, g]; rfl
        · first | (simp [f, e, d, a, b, g] <;> omega) | (have hq := g; simp at hq; simp [f, e, d, a, b, g, hq]; done) | skip
      refine regv_nil ?_
      refine (Decidable.em (z.Kind ≥ 4)).symm.elim (fun i => ?_) (fun i => ?_)
      · rw [if_neg (by simpa using i)] at h
        refine Wp.cond false (by first | (simp [f, e, d, a, b, g, i] <;> omega) | (have hq := i; simp at hq; simp [f, e, d, a, b, g, i, hq]; done)) (fun h0 => absurd h0 (by decide)) (fun _ => ?_)
        refine Wp.skip ?_
        show Wp _ _ _ _
        refine Wp.reg_seq (own := fun _ => false) tt_ok ?_
        iterate 3
          refine regv_pure (s1 := ?_) rfl rfl ?_ ?_ ?_
          rotate_left
          · simp [f, e, d, a, b, g, i]; rfl
          · first | (simp [f, e, d, a, b, g, i] <;> omega) | (have hq := i; simp at hq; simp [f, e, d, a, b, g, i, hq]; done) | skip
        obtain ⟨⟨ag, ae⟩, ac, h⟩ := obind h
        dsimp only at h
        refine regv_call2 (s' := ?_) (p := ?_) (con_rungeval_writes ac) rfl rfl rfl rfl ?_ ?_ ?_ ?_ ?_ ?_
        rotate_left 2
        · simp [f, e, d, a, b, g, i]; rfl
        · first | exact .inl rfl | (refine .inl ?_; simp [f, e, d, a, b, g, i]; done) | (refine .inr ?_; dsimp only; repeat' first | exact All2.nil | refine All2.cons ?_ ?_) <;> first | exact AvLe.refl _ rfl | exact AvLe.nil _ | exact AvLe.znil _ | exact AvLe.list' (by simp [f, e, d, a, b, g, i]; done) (by simp [f, e, d, a, b, g, i]; done) | exact AvLe.eq (by simp [f, e, d, a, b, g, i]; done) rfl
        · first | (simp [f, e, d, a, b, g, i] <;> omega) | (have hq := i; simp at hq; simp [f, e, d, a, b, g, i, hq]; done) | skip
        · simp
        · simp [f, e, d, a, b, g, i]; rfl
        iterate 5
          refine regv_pure (s1 := ?_) rfl rfl ?_ ?_ ?_
          rotate_left
          · simp [f, e, d, a, b, g, i]; rfl
          · first | (simp [f, e, d, a, b, g, i] <;> omega) | (have hq := i; simp at hq; simp [f, e, d, a, b, g, i, hq]; done) | skip
        refine regv_nil ?_
        refine Wp.reg_seq (own := fun _ => false) tt_ok ?_
        iterate 4
          refine regv_pure (s1 := ?_) rfl rfl ?_ ?_ ?_
          rotate_left
          · simp [f, e, d, a, b, g, i]; rfl
          · first | (simp [f, e, d, a, b, g, i] <;> omega) | (have hq := i; simp at hq; simp [f, e, d, a, b, g, i, hq]; done) | skip
        obtain ⟨⟨y, af⟩, ad, h⟩ := obind h
        dsimp only at h
        refine regv_call2 (s' := ?_) (p := ?_) (con_state_Write ad) rfl rfl rfl rfl ?_ ?_ ?_ ?_ ?_ ?_
        rotate_left 2
        · simp [f, e, d, a, b, g, i]; rfl
        · first | exact .inl rfl | (refine .inl ?_; simp [f, e, d, a, b, g, i]; done) | (refine .inr ?_; dsimp only; repeat' first | exact All2.nil | refine All2.cons ?_ ?_) <;> first | exact AvLe.refl _ rfl | exact AvLe.nil _ | exact AvLe.znil _ | exact AvLe.list' (by simp [f, e, d, a, b, g, i]; done) (by simp [f, e, d, a, b, g, i]; done) | exact AvLe.eq (by simp [f, e, d, a, b, g, i]; done) rfl
        · first | (simp [f, e, d, a, b, g, i] <;> omega) | (have hq := i; simp at hq; simp [f, e, d, a, b, g, i, hq]; done) | skip
        · simp
        · simp [f, e, d, a, b, g, i]; rfl
        iterate 6
          refine regv_pure (s1 := ?_) rfl rfl ?_ ?_ ?_
          rotate_left
          · simp [f, e, d, a, b, g, i]; rfl
          · first | (simp [f, e, d, a, b, g, i] <;> omega) | (have hq := i; simp at hq; simp [f, e, d, a, b, g, i, hq]; done) | skip
        refine regv_nil ?_
        refine Wp.seq ?_
        refine Wp.reg_seq (own := fun _ => false) tt_ok ?_
        iterate 2
          refine regv_pure (s1 := ?_) rfl rfl ?_ ?_ ?_
          rotate_left
          · simp [f, e, d, a, b, g, i]; rfl
          · first | (simp [f, e, d, a, b, g, i] <;> omega) | (have hq := i; simp at hq; simp [f, e, d, a, b, g, i, hq]; done) | skip
        refine regv_nil ?_
        cases j : (af != 0)
        · rw [j, if_neg (by simp)] at h
          refine Wp.cond false (by first | (simp [f, e, d, a, b, g, i, j] <;> omega) | (have hq := j; simp at hq; simp [f, e, d, a, b, g, i, j, hq]; done)) (fun h0 => absurd h0 (by decide)) (fun _ => ?_)
          refine Wp.skip ?_
          show Wp _ _ _ _
          refine Wp.reg_seq (own := fun _ => false) tt_ok ?_
          iterate 1
            refine regv_pure (s1 := ?_) rfl rfl ?_ ?_ ?_
            rotate_left
            · simp [f, e, d, a, b, g, i, j]; rfl
            · first | (simp [f, e, d, a, b, g, i, j] <;> omega) | (have hq := j; simp at hq; simp [f, e, d, a, b, g, i, j, hq]; done) | skip
          refine regv_nil ?_
          cases k : ae
          · rw [k, if_neg (by simp)] at h
            refine Wp.cond false (by first | (simp [f, e, d, a, b, g, i, j, k] <;> omega) | (have hq := k; simp at hq; simp [f, e, d, a, b, g, i, j, k, hq]; done)) (fun h0 => absurd h0 (by decide)) (fun _ => ?_)
            refine Wp.skip ?_
            show Wp _ _ _ _
            refine Wp.reg (own := fun _ => false) tt_ok ?_
            iterate 2
              refine regv_pure (s1 := ?_) rfl rfl ?_ ?_ ?_
              rotate_left
              · simp [f, e, d, a, b, g, i, j, k]; rfl
              · first | (simp [f, e, d, a, b, g, i, j, k] <;> omega) | (have hq := k; simp at hq; simp [f, e, d, a, b, g, i, j, k, hq]; done) | skip
            refine regv_nil ?_
            refine next_mk (q, u, v, (IntKind.i64.wrap (o + 1))) h ?_
            refine Reloc.mk2 [some 0, some 1] rfl rfl rfl (by decide) ?_ ?_
            · repeat' first | exact objsLe_nil | refine objsLe_cons ?_ ?_
              all_goals first
                | exact trivial
                | (refine ObjLe.var' rfl rfl ?_ rfl
                   repeat' first | exact All2.nil | refine All2.cons ?_ ?_
                   all_goals first | (exact AvLe.refl _ rfl) | (exact AvLe.sl _ _ _ _ rfl) | (exact AvLe.hptr _ _ _ _ rfl) | (exact AvLe.mp _ _ rfl) | (exact AvLe.nil _) | (exact AvLe.znil _) | (exact AvLe.ghost _ rfl) | (exact AvLe.zghost _ rfl) | (exact AvLe.sl' rfl (by simp [f, e, d, a, b, g, i, j, k]; done) (by first | (simp [f, e, d, a, b, g, i, j, k] <;> omega) | omega)) | (exact AvLe.frz2 rfl (by simp) rfl (by simp [f, e, d, a, b, g, i, j, k]; done) (by simp [f, e, d, a, b, g, i, j, k]; done) (by simp [f, e, d, a, b, g, i, j, k]; done)) | (exact AvLe.list' (by simp [f, e, d, a, b, g, i, j, k]; done) (by simp [f, e, d, a, b, g, i, j, k]; done)) | (exact AvLe.eq (by simp [f, e, d, a, b, g, i, j, k]; done) rfl))
                | (exact ObjLe.map' rfl rfl)
                | (exact ObjLe.ghost' rfl (by decide))
                | (exact ObjLe.arr' rfl rfl (by first | (simp [f, e, d, a, b, g, i, j, k] <;> omega)) (fun _ _ => by first | rfl | (simp [f, e, d, a, b, g, i, j, k]; done)))
                | ((simp [f, e, d, a, b, g, i, j, k]; done))
            · repeat' first | exact chLe_nil | refine chLe_cons ?_ ?_
              all_goals first
                | (exact AvLe.refl _ rfl)
                | (exact AvLe.sl _ _ _ _ rfl)
                | (exact AvLe.hptr _ _ _ _ rfl)
                | (exact AvLe.mp _ _ rfl)
                | (exact AvLe.nil _)
                | (exact AvLe.znil _)
                | (exact AvLe.ghost _ rfl)
                | (exact AvLe.zghost _ rfl)
                | (exact AvLe.sl' rfl (by simp [f, e, d, a, b, g, i, j, k]; done) (by first | (simp [f, e, d, a, b, g, i, j, k] <;> omega) | omega))
                | (exact AvLe.frz2 rfl (by simp) rfl (by simp [f, e, d, a, b, g, i, j, k]; done) (by simp [f, e, d, a, b, g, i, j, k]; done) (by simp [f, e, d, a, b, g, i, j, k]; done))
                | (exact AvLe.list' (by simp [f, e, d, a, b, g, i, j, k]; done) (by simp [f, e, d, a, b, g, i, j, k]; done))
                | (exact AvLe.eq (by simp [f, e, d, a, b, g, i, j, k]; done) rfl)
          · rw [k, if_pos rfl] at h
            refine Wp.cond true (by first | (simp [f, e, d, a, b, g, i, j, k] <;> omega) | (have hq := k; simp at hq; simp [f, e, d, a, b, g, i, j, k, hq]; done)) (fun _ => ?_) (fun h0 => absurd h0 (by decide))
            refine Wp.reg (own := fun _ => false) tt_ok ?_
            iterate 2
              refine regv_pure (s1 := ?_) rfl rfl ?_ ?_ ?_
              rotate_left
              · simp [f, e, d, a, b, g, i, j, k]; rfl
              · first | (simp [f, e, d, a, b, g, i, j, k] <;> omega) | (have hq := k; simp at hq; simp [f, e, d, a, b, g, i, j, k, hq]; done) | skip
            refine regv_nil ?_
            show Wp _ _ _ _
            refine Wp.reg (own := fun _ => false) tt_ok ?_
            iterate 2
              refine regv_pure (s1 := ?_) rfl rfl ?_ ?_ ?_
              rotate_left
              · simp [f, e, d, a, b, g, i, j, k]; rfl
              · first | (simp [f, e, d, a, b, g, i, j, k] <;> omega) | (have hq := k; simp at hq; simp [f, e, d, a, b, g, i, j, k, hq]; done) | skip
            refine regv_nil ?_
            refine next_mk (y.Q, y.M, y.E, (IntKind.i64.wrap (o + 1))) h ?_
            refine Reloc.mk2 [some 0, some 1] rfl rfl rfl (by decide) ?_ ?_
            · repeat' first | exact objsLe_nil | refine objsLe_cons ?_ ?_
              all_goals first
                | exact trivial
                | (refine ObjLe.var' rfl rfl ?_ rfl
                   repeat' first | exact All2.nil | refine All2.cons ?_ ?_
                   all_goals first | (exact AvLe.refl _ rfl) | (exact AvLe.sl _ _ _ _ rfl) | (exact AvLe.hptr _ _ _ _ rfl) | (exact AvLe.mp _ _ rfl) | (exact AvLe.nil _) | (exact AvLe.znil _) | (exact AvLe.ghost _ rfl) | (exact AvLe.zghost _ rfl) | (exact AvLe.sl' rfl (by simp [f, e, d, a, b, g, i, j, k]; done) (by first | (simp [f, e, d, a, b, g, i, j, k] <;> omega) | omega)) | (exact AvLe.frz2 rfl (by simp) rfl (by simp [f, e, d, a, b, g, i, j, k]; done) (by simp [f, e, d, a, b, g, i, j, k]; done) (by simp [f, e, d, a, b, g, i, j, k]; done)) | (exact AvLe.list' (by simp [f, e, d, a, b, g, i, j, k]; done) (by simp [f, e, d, a, b, g, i, j, k]; done)) | (exact AvLe.eq (by simp [f, e, d, a, b, g, i, j, k]; done) rfl))
                | (exact ObjLe.map' rfl rfl)
                | (exact ObjLe.ghost' rfl (by decide))
                | (exact ObjLe.arr' rfl rfl (by first | (simp [f, e, d, a, b, g, i, j, k] <;> omega)) (fun _ _ => by first | rfl | (simp [f, e, d, a, b, g, i, j, k]; done)))
                | ((simp [f, e, d, a, b, g, i, j, k]; done))
            · repeat' first | exact chLe_nil | refine chLe_cons ?_ ?_
              all_goals first
                | (exact AvLe.refl _ rfl)
                | (exact AvLe.sl _ _ _ _ rfl)
                | (exact AvLe.hptr _ _ _ _ rfl)
                | (exact AvLe.mp _ _ rfl)
                | (exact AvLe.nil _)
                | (exact AvLe.znil _)
                | (exact AvLe.ghost _ rfl)
                | (exact AvLe.zghost _ rfl)
                | (exact AvLe.sl' rfl (by simp [f, e, d, a, b, g, i, j, k]; done) (by first | (simp [f, e, d, a, b, g, i, j, k] <;> omega) | omega))
                | (exact AvLe.frz2 rfl (by simp) rfl (by simp [f, e, d, a, b, g, i, j, k]; done) (by simp [f, e, d, a, b, g, i, j, k]; done) (by simp [f, e, d, a, b, g, i, j, k]; done))
                | (exact AvLe.list' (by simp [f, e, d, a, b, g, i, j, k]; done) (by simp [f, e, d, a, b, g, i, j, k]; done))
                | (exact AvLe.eq (by simp [f, e, d, a, b, g, i, j, k]; done) rfl)
        · rw [j, if_pos rfl] at h
          refine Wp.cond true (by first | (simp [f, e, d, a, b, g, i, j] <;> omega) | (have hq := j; simp at hq; simp [f, e, d, a, b, g, i, j, hq]; done)) (fun _ => ?_) (fun h0 => absurd h0 (by decide))
          refine Wp.reg_seq (own := fun _ => false) tt_ok ?_
          iterate 4
            refine regv_pure (s1 := ?_) rfl rfl ?_ ?_ ?_
            rotate_left
            · simp [f, e, d, a, b, g, i, j]; rfl
            · first | (simp [f, e, d, a, b, g, i, j] <;> omega) | (have hq := j; simp at hq; simp [f, e, d, a, b, g, i, j, hq]; done) | skip
          refine regv_nil ?_
          cases h
          refine Wp.ret (endQ_ret0 rfl ?_)
          repeat' first | exact All2.nil | refine All2.cons ?_ ?_ | refine AvLe.tups ?_ | refine AvLe.aggs ?_
          all_goals first
            | (exact AvLe.refl _ rfl)
            | (exact AvLe.nil _)
            | (exact AvLe.znil _)
            | (exact AvLe.ghost _ rfl)
            | (exact AvLe.zghost _ rfl)
            | (exact AvLe.sl' rfl (by simp [f, e, d, a, b, g, i, j]; done) (by simp [f, e, d, a, b, g, i, j]; done))
            | (exact AvLe.frz' rfl rfl rfl (by simp [f, e, d, a, b, g, i, j]; done) (by simp [f, e, d, a, b, g, i, j]; done) (by simp [f, e, d, a, b, g, i, j]; done))
            | (exact AvLe.list' (by simp [f, e, d, a, b, g, i, j]; done) (by simp [f, e, d, a, b, g, i, j]; done))
            | (exact AvLe.eq (by simp [f, e, d, a, b, g, i, j]; done) rfl)
      · rw [if_pos (decide_eq_true i)] at h
        refine Wp.cond true (by first | (simp [f, e, d, a, b, g, i] <;> omega) | (have hq := i; simp at hq; simp [f, e, d, a, b, g, i, hq]; done)) (fun _ => ?_) (fun h0 => absurd h0 (by decide))
        refine Wp.reg_seq (own := fun _ => false) tt_ok ?_
        iterate 3
          refine regv_pure (s1 := ?_) rfl rfl ?_ ?_ ?_
          rotate_left
          · simp [f, e, d, a, b, g, i]; rfl
          · first | (simp [f, e, d, a, b, g, i] <;> omega) | (have hq := i; simp at hq; simp [f, e, d, a, b, g, i, hq]; done) | skip
        refine regv_nil ?_
        cases h
        refine Wp.ret (endQ_ret0 rfl ?_)
        repeat' first | exact All2.nil | refine All2.cons ?_ ?_ | refine AvLe.tups ?_ | refine AvLe.aggs ?_
        all_goals first
          | (exact AvLe.refl _ rfl)
          | (exact AvLe.nil _)
          | (exact AvLe.znil _)
          | (exact AvLe.ghost _ rfl)
          | (exact AvLe.zghost _ rfl)
          | (exact AvLe.sl' rfl (by simp [f, e, d, a, b, g, i]; done) (by simp [f, e, d, a, b, g, i]; done))
          | (exact AvLe.frz' rfl rfl rfl (by simp [f, e, d, a, b, g, i]; done) (by simp [f, e, d, a, b, g, i]; done) (by simp [f, e, d, a, b, g, i]; done))
          | (exact AvLe.list' (by simp [f, e, d, a, b, g, i]; done) (by simp [f, e, d, a, b, g, i]; done))
          | (exact AvLe.eq (by simp [f, e, d, a, b, g, i]; done) rfl)
    · rw [if_pos (decide_eq_true g)] at h
      refine regv_skip (s1 := ?_) ?_ ?_ ?_
      rotate_left
      · simp [f, e, d, a, b, g]; done
      · simp [f, e, d, a, b, g]; rfl
      refine regv_skip (s1 := ?_) ?_ ?_ ?_
      rotate_left
      · simp [f, e, d, a, b, g]; done
      · simp [f, e, d, a, b, g]; rfl
      refine regv_skip (s1 := ?_) ?_ ?_ ?_
      rotate_left
      · simp [f, e, d, a, b, g]; done
      · simp [f, e, d, a, b, g]; rfl
      iterate 1
        refine regv_pure (s1 := ?_) rfl rfl ?_ ?_ ?_
        rotate_left
        · simp [f, e, d, a, b, g]; rfl
        · first | (simp [f, e, d, a, b, g] <;> omega) | (have hq := g; simp at hq; simp [f, e, d, a, b, g, hq]; done) | skip
      refine regv_nil ?_
      refine Wp.cond true (by first | (simp [f, e, d, a, b, g] <;> omega) | (have hq := g; simp at hq; simp [f, e, d, a, b, g, hq]; done)) (fun _ => ?_) (fun h0 => absurd h0 (by decide))
      refine Wp.reg_seq (own := fun _ => false) tt_ok ?_
      iterate 3
        refine regv_pure (s1 := ?_) rfl rfl ?_ ?_ ?_
        rotate_left
        · simp [f, e, d, a, b, g]; rfl
        · first | (simp [f, e, d, a, b, g] <;> omega) | (have hq := g; simp at hq; simp [f, e, d, a, b, g, hq]; done) | skip
      refine regv_nil ?_
      cases h
      refine Wp.ret (endQ_ret0 rfl ?_)
      repeat' first | exact All2.nil | refine All2.cons ?_ ?_ | refine AvLe.tups ?_ | refine AvLe.aggs ?_
      all_goals first
        | (exact AvLe.refl _ rfl)
        | (exact AvLe.nil _)
        | (exact AvLe.znil _)
        | (exact AvLe.ghost _ rfl)
        | (exact AvLe.zghost _ rfl)
        | (exact AvLe.sl' rfl (by simp [f, e, d, a, b, g]; done) (by simp [f, e, d, a, b, g]; done))
        | (exact AvLe.frz' rfl rfl rfl (by simp [f, e, d, a, b, g]; done) (by simp [f, e, d, a, b, g]; done) (by simp [f, e, d, a, b, g]; done))
        | (exact AvLe.list' (by simp [f, e, d, a, b, g]; done) (by simp [f, e, d, a, b, g]; done))
        | (exact AvLe.eq (by simp [f, e, d, a, b, g]; done) rfl)

def ref02_Equal_S1 (n : Nat) (a0 : List Bool) (b1 : List Bool) (q : Int) : St :=
  { ch := [(0, aL cB a0), (1, aL cB b1), (5, .int .i64 q)], hp := [], base := 0, n := 26, cond := True }

theorem con_ref02_Equal {n : Nat} {a0 : List Bool} {b1 : List Bool} {r : Bool} (h : ref02_Equal n a0 b1 = some r) : Con Try.prog 28 [aL cB a0, aL cB b1] (.bool r) [] := by
  refine con_of (T := TT0) tt_ok Try.func28 (c := _) (by unfold Try.f28; rfl) Try.ntmps28 (rs := [.tmp 4]) (by rw [Try.results28]) (by unfold Try.f28; rfl) (by simp) ?_
  simp only [argsCh]
  dsimp only [ref02_Equal] at h
  refine Wp.reg_seq (own := fun _ => false) tt_ok ?_
  iterate 1
    refine regv_pure (s1 := ?_) rfl rfl ?_ ?_ ?_
    rotate_left
    · simp []; rfl
    · first | (simp [] <;> omega) | skip
  refine regv_nil ?_
  refine Wp.seq ?_
  refine Wp.reg_seq (own := fun _ => false) tt_ok ?_
  iterate 5
    refine regv_pure (s1 := ?_) rfl rfl ?_ ?_ ?_
    rotate_left
    · simp []; rfl
    · first | (simp [] <;> omega) | skip
  refine regv_nil ?_
  cases a : ((a0.length : Int) != (b1.length : Int))
  · rw [a, if_neg (by simp)] at h
    refine Wp.cond false (by first | (simp [a] <;> omega) | (have hq := a; simp at hq; simp [a, hq]; done)) (fun h0 => absurd h0 (by decide)) (fun _ => ?_)
    refine Wp.skip ?_
    show Wp _ _ _ _
    refine Wp.seq ?_
    refine Wp.reg_seq (own := fun _ => false) tt_ok ?_
    iterate 1
      refine regv_pure (s1 := ?_) rfl rfl ?_ ?_ ?_
      rotate_left
      · simp [a]; rfl
      · first | (simp [a] <;> omega) | (have hq := a; simp at hq; simp [a, hq]; done) | skip
    refine regv_nil ?_
    refine Wp.block ?_
    refine Wp.loopF (α := Int) (fun x => ref02_Equal_S1 n a0 b1 x) (fun m x => ref02_Equal_L1 a0 b1 m x = some r) (fun _ h => by cases h) ?_ n 0 h ?_
    rotate_left
    · simp only [ref02_Equal_S1]
      refine Reloc.mk2 [] rfl rfl rfl (by decide) ?_ ?_
      · repeat' first | exact objsLe_nil | refine objsLe_cons ?_ ?_
        all_goals first
          | exact trivial
          | (refine ObjLe.var' rfl rfl ?_ rfl
             repeat' first | exact All2.nil | refine All2.cons ?_ ?_
             all_goals first | (exact AvLe.refl _ rfl) | (exact AvLe.sl _ _ _ _ rfl) | (exact AvLe.hptr _ _ _ _ rfl) | (exact AvLe.mp _ _ rfl) | (exact AvLe.nil _) | (exact AvLe.znil _) | (exact AvLe.ghost _ rfl) | (exact AvLe.zghost _ rfl) | (exact AvLe.sl' rfl (by simp [a]; done) (by first | (simp [a] <;> omega) | omega)) | (exact AvLe.frz2 rfl (by simp) rfl (by simp [a]; done) (by simp [a]; done) (by simp [a]; done)) | (exact AvLe.list' (by simp [a]; done) (by simp [a]; done)) | (exact AvLe.eq (by simp [a]; done) rfl))
          | (exact ObjLe.map' rfl rfl)
          | (exact ObjLe.ghost' rfl (by decide))
          | (exact ObjLe.arr' rfl rfl (by first | (simp [a] <;> omega)) (fun _ _ => by first | rfl | (simp [a]; done)))
          | ((simp [a]; done))
      · repeat' first | exact chLe_nil | refine chLe_cons ?_ ?_
        all_goals first
          | (exact AvLe.refl _ rfl)
          | (exact AvLe.sl _ _ _ _ rfl)
          | (exact AvLe.hptr _ _ _ _ rfl)
          | (exact AvLe.mp _ _ rfl)
          | (exact AvLe.nil _)
          | (exact AvLe.znil _)
          | (exact AvLe.ghost _ rfl)
          | (exact AvLe.zghost _ rfl)
          | (exact AvLe.sl' rfl (by simp [a]; done) (by first | (simp [a] <;> omega) | omega))
          | (exact AvLe.frz2 rfl (by simp) rfl (by simp [a]; done) (by simp [a]; done) (by simp [a]; done))
          | (exact AvLe.list' (by simp [a]; done) (by simp [a]; done))
          | (exact AvLe.eq (by simp [a]; done) rfl)
    rintro rec_n1 q h
    simp only [ref02_Equal_S1]
    dsimp only [ref02_Equal_L1] at h
    refine Wp.seq ?_
    refine Wp.reg_seq (own := fun _ => false) tt_ok ?_
    iterate 4
      refine regv_pure (s1 := ?_) rfl rfl ?_ ?_ ?_
      rotate_left
      · simp [a]; rfl
      · first | (simp [a] <;> omega) | (have hq := a; simp at hq; simp [a, hq]; done) | skip
    refine regv_nil ?_
    refine (Decidable.em (q < (a0.length : Int))).symm.elim (fun b => ?_) (fun b => ?_)
    · rw [if_neg (by simpa using b)] at h
      refine Wp.cond false (by first | (simp [a, b] <;> omega) | (have hq := b; simp at hq; simp [a, b, hq]; done)) (fun h0 => absurd h0 (by decide)) (fun _ => ?_)
      refine Wp.exit ?_
      show Wp _ _ _ _
      refine Wp.reg_seq (own := fun _ => false) tt_ok ?_
      iterate 1
        refine regv_pure (s1 := ?_) rfl rfl ?_ ?_ ?_
        rotate_left
        · simp [a, b]; rfl
        · first | (simp [a, b] <;> omega) | (have hq := b; simp at hq; simp [a, b, hq]; done) | skip
      refine regv_nil ?_
      cases h
      refine Wp.ret (endQ_ret0 rfl ?_)
      repeat' first | exact All2.nil | refine All2.cons ?_ ?_ | refine AvLe.tups ?_ | refine AvLe.aggs ?_
      all_goals first
        | (exact AvLe.refl _ rfl)
        | (exact AvLe.nil _)
        | (exact AvLe.znil _)
        | (exact AvLe.ghost _ rfl)
        | (exact AvLe.zghost _ rfl)
        | (exact AvLe.sl' rfl (by simp [a, b]; done) (by simp [a, b]; done))
        | (exact AvLe.frz' rfl rfl rfl (by simp [a, b]; done) (by simp [a, b]; done) (by simp [a, b]; done))
        | (exact AvLe.list' (by simp [a, b]; done) (by simp [a, b]; done))
        | (exact AvLe.eq (by simp [a, b]; done) rfl)
    · rw [if_pos (decide_eq_true b)] at h
      refine Wp.cond true (by first | (simp [a, b] <;> omega) | (have hq := b; simp at hq; simp [a, b, hq]; done)) (fun _ => ?_) (fun h0 => absurd h0 (by decide))
      refine Wp.skip ?_
      show Wp _ _ _ _
      refine Wp.seq ?_
      refine Wp.block ?_
      refine Wp.drawn (own := fun _ => false) tt_ok mixed [] (by decide +kernel) trivial ?_
      refine regI_upto 2 (r := ?_) ?_ ?_ ?_
      rotate_left
      · simp [List.range, List.range.loop, a, b]; rfl
      · first | (simp [a, b] <;> omega) | (have hq := b; simp at hq; simp [a, b, hq]; done) | skip
      obtain ⟨w, u, h⟩ := obind h
      obtain ⟨g, e, d⟩ := atI_some u
      try simp [a, b] at e
      try simp only [Int.toNat_natCast, Int.reduceToNat, Nat.zero_add, Nat.add_zero] at d
      have f := getElem_of d
      refine regI_upto 4 (r := ?_) ?_ ?_ ?_
      rotate_left
      · simp [List.range, List.range.loop, a, b, g, e, d, f]; rfl
      · first | (simp [a, b, g, e, d, f] <;> omega) | (have hq := f; simp at hq; simp [a, b, g, e, d, f, hq]; done) | skip
      obtain ⟨y, v, h⟩ := obind h
      obtain ⟨o, j, i⟩ := atI_some v
      try simp [a, b, g, e, d, f] at j
      try simp only [Int.toNat_natCast, Int.reduceToNat, Nat.zero_add, Nat.add_zero] at i
      have k := getElem_of i
      refine regI_upto 3 (r := ?_) ?_ ?_ ?_
      rotate_left
      · simp [List.range, List.range.loop, a, b, g, e, d, f, o, j, i, k]; rfl
      · first | (simp [a, b, g, e, d, f, o, j, i, k] <;> omega) | (have hq := k; simp at hq; simp [a, b, g, e, d, f, o, j, i, k, hq]; done) | skip
      refine regI_nil ?_
      cases p : (!(w == y))
      · rw [p, if_neg (by simp)] at h
        refine Wp.cond false (by first | (simp [a, b, g, e, d, f, o, j, i, k, p] <;> omega) | (have hq := p; simp at hq; simp [a, b, g, e, d, f, o, j, i, k, p, hq]; done)) (fun h0 => absurd h0 (by decide)) (fun _ => ?_)
        refine Wp.skip ?_
        show Wp _ _ _ _
        refine Wp.reg (own := fun _ => false) tt_ok ?_
        iterate 3
          refine regv_pure (s1 := ?_) rfl rfl ?_ ?_ ?_
          rotate_left
          · simp [a, b, g, e, d, f, o, j, i, k, p]; rfl
          · first | (simp [a, b, g, e, d, f, o, j, i, k, p] <;> omega) | (have hq := p; simp at hq; simp [a, b, g, e, d, f, o, j, i, k, p, hq]; done) | skip
        refine regv_nil ?_
        refine next_mk (IntKind.i64.wrap (q + 1)) h ?_
        refine Reloc.mk2 [] rfl rfl rfl (by decide) ?_ ?_
        · repeat' first | exact objsLe_nil | refine objsLe_cons ?_ ?_
          all_goals first
            | exact trivial
            | (refine ObjLe.var' rfl rfl ?_ rfl
               repeat' first | exact All2.nil | refine All2.cons ?_ ?_
               all_goals first | (exact AvLe.refl _ rfl) | (exact AvLe.sl _ _ _ _ rfl) | (exact AvLe.hptr _ _ _ _ rfl) | (exact AvLe.mp _ _ rfl) | (exact AvLe.nil _) | (exact AvLe.znil _) | (exact AvLe.ghost _ rfl) | (exact AvLe.zghost _ rfl) | (exact AvLe.sl' rfl (by simp [a, b, g, e, d, f, o, j, i, k, p]; done) (by first | (simp [a, b, g, e, d, f, o, j, i, k, p] <;> omega) | omega)) | (exact AvLe.frz2 rfl (by simp) rfl (by simp [a, b, g, e, d, f, o, j, i, k, p]; done) (by simp [a, b, g, e, d, f, o, j, i, k, p]; done) (by simp [a, b, g, e, d, f, o, j, i, k, p]; done)) | (exact AvLe.list' (by simp [a, b, g, e, d, f, o, j, i, k, p]; done) (by simp [a, b, g, e, d, f, o, j, i, k, p]; done)) | (exact AvLe.eq (by simp [a, b, g, e, d, f, o, j, i, k, p]; done) rfl))
            | (exact ObjLe.map' rfl rfl)
            | (exact ObjLe.ghost' rfl (by decide))
            | (exact ObjLe.arr' rfl rfl (by first | (simp [a, b, g, e, d, f, o, j, i, k, p] <;> omega)) (fun _ _ => by first | rfl | (simp [a, b, g, e, d, f, o, j, i, k, p]; done)))
            | ((simp [a, b, g, e, d, f, o, j, i, k, p]; done))
        · repeat' first | exact chLe_nil | refine chLe_cons ?_ ?_
          all_goals first
            | (exact AvLe.refl _ rfl)
            | (exact AvLe.sl _ _ _ _ rfl)
            | (exact AvLe.hptr _ _ _ _ rfl)
            | (exact AvLe.mp _ _ rfl)
            | (exact AvLe.nil _)
            | (exact AvLe.znil _)
            | (exact AvLe.ghost _ rfl)
            | (exact AvLe.zghost _ rfl)
            | (exact AvLe.sl' rfl (by simp [a, b, g, e, d, f, o, j, i, k, p]; done) (by first | (simp [a, b, g, e, d, f, o, j, i, k, p] <;> omega) | omega))
            | (exact AvLe.frz2 rfl (by simp) rfl (by simp [a, b, g, e, d, f, o, j, i, k, p]; done) (by simp [a, b, g, e, d, f, o, j, i, k, p]; done) (by simp [a, b, g, e, d, f, o, j, i, k, p]; done))
            | (exact AvLe.list' (by simp [a, b, g, e, d, f, o, j, i, k, p]; done) (by simp [a, b, g, e, d, f, o, j, i, k, p]; done))
            | (exact AvLe.eq (by simp [a, b, g, e, d, f, o, j, i, k, p]; done) rfl)
      · rw [p, if_pos rfl] at h
        refine Wp.cond true (by first | (simp [a, b, g, e, d, f, o, j, i, k, p] <;> omega) | (have hq := p; simp at hq; simp [a, b, g, e, d, f, o, j, i, k, p, hq]; done)) (fun _ => ?_) (fun h0 => absurd h0 (by decide))
        refine Wp.reg_seq (own := fun _ => false) tt_ok ?_
        iterate 1
          refine regv_pure (s1 := ?_) rfl rfl ?_ ?_ ?_
          rotate_left
          · simp [a, b, g, e, d, f, o, j, i, k, p]; rfl
          · first | (simp [a, b, g, e, d, f, o, j, i, k, p] <;> omega) | (have hq := p; simp at hq; simp [a, b, g, e, d, f, o, j, i, k, p, hq]; done) | skip
        refine regv_nil ?_
        cases h
        refine Wp.ret (endQ_ret0 rfl ?_)
        repeat' first | exact All2.nil | refine All2.cons ?_ ?_ | refine AvLe.tups ?_ | refine AvLe.aggs ?_
        all_goals first
          | (exact AvLe.refl _ rfl)
          | (exact AvLe.nil _)
          | (exact AvLe.znil _)
          | (exact AvLe.ghost _ rfl)
          | (exact AvLe.zghost _ rfl)
          | (exact AvLe.sl' rfl (by simp [a, b, g, e, d, f, o, j, i, k, p]; done) (by simp [a, b, g, e, d, f, o, j, i, k, p]; done))
          | (exact AvLe.frz' rfl rfl rfl (by simp [a, b, g, e, d, f, o, j, i, k, p]; done) (by simp [a, b, g, e, d, f, o, j, i, k, p]; done) (by simp [a, b, g, e, d, f, o, j, i, k, p]; done))
          | (exact AvLe.list' (by simp [a, b, g, e, d, f, o, j, i, k, p]; done) (by simp [a, b, g, e, d, f, o, j, i, k, p]; done))
          | (exact AvLe.eq (by simp [a, b, g, e, d, f, o, j, i, k, p]; done) rfl)
  · rw [a, if_pos rfl] at h
    refine Wp.cond true (by first | (simp [a] <;> omega) | (have hq := a; simp at hq; simp [a, hq]; done)) (fun _ => ?_) (fun h0 => absurd h0 (by decide))
    refine Wp.reg_seq (own := fun _ => false) tt_ok ?_
    iterate 1
      refine regv_pure (s1 := ?_) rfl rfl ?_ ?_ ?_
      rotate_left
      · simp [a]; rfl
      · first | (simp [a] <;> omega) | (have hq := a; simp at hq; simp [a, hq]; done) | skip
    refine regv_nil ?_
    cases h
    refine Wp.ret (endQ_ret0 rfl ?_)
    repeat' first | exact All2.nil | refine All2.cons ?_ ?_ | refine AvLe.tups ?_ | refine AvLe.aggs ?_
    all_goals first
      | (exact AvLe.refl _ rfl)
      | (exact AvLe.nil _)
      | (exact AvLe.znil _)
      | (exact AvLe.ghost _ rfl)
      | (exact AvLe.zghost _ rfl)
      | (exact AvLe.sl' rfl (by simp [a]; done) (by simp [a]; done))
      | (exact AvLe.frz' rfl rfl rfl (by simp [a]; done) (by simp [a]; done) (by simp [a]; done))
      | (exact AvLe.list' (by simp [a]; done) (by simp [a]; done))
      | (exact AvLe.eq (by simp [a]; done) rfl)

theorem con_ref03_Equal {n : Nat} {a0 : ApiState} {b1 : ApiState} {r : Bool} (h : ref03_Equal n a0 b1 = some r) : Con Try.prog 18 [.agg (cApiState a0), .agg (cApiState b1)] (.bool r) [] := by
  refine con_of (T := TT0) tt_ok Try.func18 (c := _) (by unfold Try.f18; rfl) Try.ntmps18 (rs := [.tmp 4]) (by rw [Try.results18]) (by unfold Try.f18; rfl) (by simp) ?_
  simp only [argsCh]
  dsimp only [ref03_Equal] at h
  refine Wp.reg_seq (own := fun _ => false) tt_ok ?_
  iterate 3
    refine regv_pure (s1 := ?_) rfl rfl ?_ ?_ ?_
    rotate_left
    · simp []; rfl
    · first | (simp [] <;> omega) | skip
  refine regv_nil ?_
  refine Wp.reg_seq (own := fun _ => false) tt_ok ?_
  iterate 4
    refine regv_pure (s1 := ?_) rfl rfl ?_ ?_ ?_
    rotate_left
    · simp []; rfl
    · first | (simp [] <;> omega) | skip
  obtain ⟨g, d, h⟩ := obind h
  refine regv_call2 (s' := ?_) (p := ?_) (con_ref02_Equal d) rfl rfl rfl rfl ?_ ?_ ?_ ?_ ?_ ?_
  rotate_left 2
  · simp []; rfl
  · first | exact .inl rfl | (refine .inl ?_; simp []; done) | (refine .inr ?_; dsimp only; repeat' first | exact All2.nil | refine All2.cons ?_ ?_) <;> first | exact AvLe.refl _ rfl | exact AvLe.nil _ | exact AvLe.znil _ | exact AvLe.list' (by simp []; done) (by simp []; done) | exact AvLe.eq (by simp []; done) rfl
  · first | (simp [] <;> omega) | skip
  · simp
  · simp []; rfl
  iterate 1
    refine regv_pure (s1 := ?_) rfl rfl ?_ ?_ ?_
    rotate_left
    · simp []; rfl
    · first | (simp [] <;> omega) | skip
  cases a : g
  · rw [a, if_neg (by simp)] at h
    refine regv_skip (s1 := ?_) ?_ ?_ ?_
    rotate_left
    · simp [a]; done
    · simp [a]; rfl
    refine regv_skip (s1 := ?_) ?_ ?_ ?_
    rotate_left
    · simp [a]; done
    · simp [a]; rfl
    refine regv_skip (s1 := ?_) ?_ ?_ ?_
    rotate_left
    · simp [a]; done
    · simp [a]; rfl
    refine regv_skip (s1 := ?_) ?_ ?_ ?_
    rotate_left
    · simp [a]; done
    · simp [a]; rfl
    refine regv_skip (s1 := ?_) ?_ ?_ ?_
    rotate_left
    · simp [a]; done
    · simp [a]; rfl
    iterate 2
      refine regv_pure (s1 := ?_) rfl rfl ?_ ?_ ?_
      rotate_left
      · simp [a]; rfl
      · first | (simp [a] <;> omega) | (have hq := a; simp at hq; simp [a, hq]; done) | skip
    refine regv_skip (s1 := ?_) ?_ ?_ ?_
    rotate_left
    · simp [a]; done
    · simp [a]; rfl
    refine regv_skip (s1 := ?_) ?_ ?_ ?_
    rotate_left
    · simp [a]; done
    · simp [a]; rfl
    refine regv_skip (s1 := ?_) ?_ ?_ ?_
    rotate_left
    · simp [a]; done
    · simp [a]; rfl
    refine regv_skip (s1 := ?_) ?_ ?_ ?_
    rotate_left
    · simp [a]; done
    · simp [a]; rfl
    refine regv_skip (s1 := ?_) ?_ ?_ ?_
    rotate_left
    · simp [a]; done
    · simp [a]; rfl
    iterate 2
      refine regv_pure (s1 := ?_) rfl rfl ?_ ?_ ?_
      rotate_left
      · simp [a]; rfl
      · first | (simp [a] <;> omega) | (have hq := a; simp at hq; simp [a, hq]; done) | skip
    refine regv_nil ?_
    cases h
    refine Wp.ret (endQ_ret0 rfl ?_)
    repeat' first | exact All2.nil | refine All2.cons ?_ ?_ | refine AvLe.tups ?_ | refine AvLe.aggs ?_
    all_goals first
      | (exact AvLe.refl _ rfl)
      | (exact AvLe.nil _)
      | (exact AvLe.znil _)
      | (exact AvLe.ghost _ rfl)
      | (exact AvLe.zghost _ rfl)
      | (exact AvLe.sl' rfl (by simp [a]; done) (by simp [a]; done))
      | (exact AvLe.frz' rfl rfl rfl (by simp [a]; done) (by simp [a]; done) (by simp [a]; done))
      | (exact AvLe.list' (by simp [a]; done) (by simp [a]; done))
      | (exact AvLe.eq (by simp [a]; done) rfl)
  · rw [a, if_pos rfl] at h
    refine regv_pure (s1 := ?_) rfl ?_ ?_ ?_ ?_
    rotate_left
    · simp [a]; done
    · simp [a]; rfl
    · first | (simp [a] <;> omega) | (have hq := a; simp at hq; simp [a, hq]; done) | skip
    refine regv_pure (s1 := ?_) rfl ?_ ?_ ?_ ?_
    rotate_left
    · simp [a]; done
    · simp [a]; rfl
    · first | (simp [a] <;> omega) | (have hq := a; simp at hq; simp [a, hq]; done) | skip
    refine regv_pure (s1 := ?_) rfl ?_ ?_ ?_ ?_
    rotate_left
    · simp [a]; done
    · simp [a]; rfl
    · first | (simp [a] <;> omega) | (have hq := a; simp at hq; simp [a, hq]; done) | skip
    refine regv_pure (s1 := ?_) rfl ?_ ?_ ?_ ?_
    rotate_left
    · simp [a]; done
    · simp [a]; rfl
    · first | (simp [a] <;> omega) | (have hq := a; simp at hq; simp [a, hq]; done) | skip
    obtain ⟨i, e, h⟩ := obind h
    refine regv_call2 (s' := ?_) (p := ?_) (con_ref02_Equal e) rfl rfl rfl rfl ?_ ?_ ?_ ?_ ?_ ?_
    rotate_left 2
    · simp [a]; rfl
    · first | exact .inl rfl | (refine .inl ?_; simp [a]; done) | (refine .inr ?_; dsimp only; repeat' first | exact All2.nil | refine All2.cons ?_ ?_) <;> first | exact AvLe.refl _ rfl | exact AvLe.nil _ | exact AvLe.znil _ | exact AvLe.list' (by simp [a]; done) (by simp [a]; done) | exact AvLe.eq (by simp [a]; done) rfl
    · first | (simp [a] <;> omega) | (have hq := a; simp at hq; simp [a, hq]; done) | skip
    · simp
    · simp [a]; rfl
    iterate 2
      refine regv_pure (s1 := ?_) rfl rfl ?_ ?_ ?_
      rotate_left
      · simp [a]; rfl
      · first | (simp [a] <;> omega) | (have hq := a; simp at hq; simp [a, hq]; done) | skip
    cases b : i
    · rw [b, if_neg (by simp)] at h
      refine regv_skip (s1 := ?_) ?_ ?_ ?_
      rotate_left
      · simp [a, b]; done
      · simp [a, b]; rfl
      refine regv_skip (s1 := ?_) ?_ ?_ ?_
      rotate_left
      · simp [a, b]; done
      · simp [a, b]; rfl
      refine regv_skip (s1 := ?_) ?_ ?_ ?_
      rotate_left
      · simp [a, b]; done
      · simp [a, b]; rfl
      refine regv_skip (s1 := ?_) ?_ ?_ ?_
      rotate_left
      · simp [a, b]; done
      · simp [a, b]; rfl
      refine regv_skip (s1 := ?_) ?_ ?_ ?_
      rotate_left
      · simp [a, b]; done
      · simp [a, b]; rfl
      iterate 2
        refine regv_pure (s1 := ?_) rfl rfl ?_ ?_ ?_
        rotate_left
        · simp [a, b]; rfl
        · first | (simp [a, b] <;> omega) | (have hq := b; simp at hq; simp [a, b, hq]; done) | skip
      refine regv_nil ?_
      cases h
      refine Wp.ret (endQ_ret0 rfl ?_)
      repeat' first | exact All2.nil | refine All2.cons ?_ ?_ | refine AvLe.tups ?_ | refine AvLe.aggs ?_
      all_goals first
        | (exact AvLe.refl _ rfl)
        | (exact AvLe.nil _)
        | (exact AvLe.znil _)
        | (exact AvLe.ghost _ rfl)
        | (exact AvLe.zghost _ rfl)
        | (exact AvLe.sl' rfl (by simp [a, b]; done) (by simp [a, b]; done))
        | (exact AvLe.frz' rfl rfl rfl (by simp [a, b]; done) (by simp [a, b]; done) (by simp [a, b]; done))
        | (exact AvLe.list' (by simp [a, b]; done) (by simp [a, b]; done))
        | (exact AvLe.eq (by simp [a, b]; done) rfl)
    · rw [b, if_pos rfl] at h
      refine regv_pure (s1 := ?_) rfl ?_ ?_ ?_ ?_
      rotate_left
      · simp [a, b]; done
      · simp [a, b]; rfl
      · first | (simp [a, b] <;> omega) | (have hq := b; simp at hq; simp [a, b, hq]; done) | skip
      refine regv_pure (s1 := ?_) rfl ?_ ?_ ?_ ?_
      rotate_left
      · simp [a, b]; done
      · simp [a, b]; rfl
      · first | (simp [a, b] <;> omega) | (have hq := b; simp at hq; simp [a, b, hq]; done) | skip
      refine regv_pure (s1 := ?_) rfl ?_ ?_ ?_ ?_
      rotate_left
      · simp [a, b]; done
      · simp [a, b]; rfl
      · first | (simp [a, b] <;> omega) | (have hq := b; simp at hq; simp [a, b, hq]; done) | skip
      refine regv_pure (s1 := ?_) rfl ?_ ?_ ?_ ?_
      rotate_left
      · simp [a, b]; done
      · simp [a, b]; rfl
      · first | (simp [a, b] <;> omega) | (have hq := b; simp at hq; simp [a, b, hq]; done) | skip
      obtain ⟨j, f, h⟩ := obind h
      refine regv_call2 (s' := ?_) (p := ?_) (con_ref02_Equal f) rfl rfl rfl rfl ?_ ?_ ?_ ?_ ?_ ?_
      rotate_left 2
      · simp [a, b]; rfl
      · first | exact .inl rfl | (refine .inl ?_; simp [a, b]; done) | (refine .inr ?_; dsimp only; repeat' first | exact All2.nil | refine All2.cons ?_ ?_) <;> first | exact AvLe.refl _ rfl | exact AvLe.nil _ | exact AvLe.znil _ | exact AvLe.list' (by simp [a, b]; done) (by simp [a, b]; done) | exact AvLe.eq (by simp [a, b]; done) rfl
      · first | (simp [a, b] <;> omega) | (have hq := b; simp at hq; simp [a, b, hq]; done) | skip
      · simp
      · simp [a, b]; rfl
      iterate 2
        refine regv_pure (s1 := ?_) rfl rfl ?_ ?_ ?_
        rotate_left
        · simp [a, b]; rfl
        · first | (simp [a, b] <;> omega) | (have hq := b; simp at hq; simp [a, b, hq]; done) | skip
      refine regv_nil ?_
      cases h
      refine Wp.ret (endQ_ret0 rfl ?_)
      repeat' first | exact All2.nil | refine All2.cons ?_ ?_ | refine AvLe.tups ?_ | refine AvLe.aggs ?_
      all_goals first
        | (exact AvLe.refl _ rfl)
        | (exact AvLe.nil _)
        | (exact AvLe.znil _)
        | (exact AvLe.ghost _ rfl)
        | (exact AvLe.zghost _ rfl)
        | (exact AvLe.sl' rfl (by simp [a, b]; done) (by simp [a, b]; done))
        | (exact AvLe.frz' rfl rfl rfl (by simp [a, b]; done) (by simp [a, b]; done) (by simp [a, b]; done))
        | (exact AvLe.list' (by simp [a, b]; done) (by simp [a, b]; done))
        | (exact AvLe.eq (by simp [a, b]; done) rfl)

theorem con_ref02_Set {n : Nat} {l0 : List Bool} {n_1 : Int} {v2 : Bool} {r : (List Bool)} (h : ref02_Set n l0 n_1 v2 = some r) : Con Try.prog 37 [aL cB l0, .int .i64 n_1, .bool v2] (aL cB r) [] := by
  refine con_of (T := TT0) tt_ok Try.func37 (c := _) (by unfold Try.f37; rfl) Try.ntmps37 (rs := [.tmp 6]) (by rw [Try.results37]) (by unfold Try.f37; rfl) (by simp) ?_
  simp only [argsCh]
  dsimp only [ref02_Set] at h
  refine Wp.reg_seq (own := fun _ => false) tt_ok ?_
  iterate 1
    refine regv_pure (s1 := ?_) rfl rfl ?_ ?_ ?_
    rotate_left
    · simp []; rfl
    · first | (simp [] <;> omega) | skip
  refine regv_nil ?_
  refine Wp.reg_seq (own := fun d => Nat.beq d 10) tt_ok ?_
  iterate 2
    refine regv_pure (s1 := ?_) rfl rfl ?_ ?_ ?_
    rotate_left
    · simp []; rfl
    · first | (simp [] <;> omega) | skip
  obtain ⟨a, h⟩ := oguard h
  iterate 2
    refine regv_pure (s1 := ?_) rfl rfl ?_ ?_ ?_
    rotate_left
    · simp [a]; rfl
    · first | (simp [a] <;> omega) | (have hq := a; simp at hq; simp [a, hq]; done) | skip
  refine regv_nil ?_
  refine Wp.reg_seq (own := fun _ => false) tt_ok ?_
  iterate 3
    refine regv_pure (s1 := ?_) rfl rfl ?_ ?_ ?_
    rotate_left
    · simp [a]; rfl
    · first | (simp [a] <;> omega) | (have hq := a; simp at hq; simp [a, hq]; done) | skip
  obtain ⟨o, m, h⟩ := obind h
  obtain ⟨g, e, b⟩ := atI_some m
  try simp [a] at e
  try simp only [Int.toNat_natCast, Int.reduceToNat, Nat.zero_add, Nat.add_zero] at b
  have f := getElem_of b
  iterate 2
    refine regv_pure (s1 := ?_) rfl rfl ?_ ?_ ?_
    rotate_left
    · simp [a, g, e, b, f]; rfl
    · first | (simp [a, g, e, b, f] <;> omega) | (have hq := f; simp at hq; simp [a, g, e, b, f, hq]; done) | skip
  obtain ⟨p, k, h⟩ := obind h
  have i := congrArg (List.map cB) (Option.some.inj k)
  have j := (congrArg List.length (Option.some.inj k)).symm
  try simp [a, g, e, b, f] at i
  try simp [a, g, e, b, f] at j
  clear k
  try simp only [i]
  refine regv_nil ?_
  refine Wp.reg_seq (own := fun _ => false) tt_ok ?_
  iterate 2
    refine regv_pure (s1 := ?_) rfl rfl ?_ ?_ ?_
    rotate_left
    · simp [a, g, e, b, f, i, j]; rfl
    · first | (simp [a, g, e, b, f, i, j] <;> omega) | (have hq := j; simp at hq; simp [a, g, e, b, f, i, j, hq]; done) | skip
  refine regv_nil ?_
  cases h
  refine Wp.ret (endQ_ret0 rfl ?_)
  repeat' first | exact All2.nil | refine All2.cons ?_ ?_ | refine AvLe.tups ?_ | refine AvLe.aggs ?_
  all_goals first
    | (exact AvLe.refl _ rfl)
    | (exact AvLe.nil _)
    | (exact AvLe.znil _)
    | (exact AvLe.ghost _ rfl)
    | (exact AvLe.zghost _ rfl)
    | (exact AvLe.sl' rfl (by simp [a, g, e, b, f, i, j]; done) (by simp [a, g, e, b, f, i, j]; done))
    | (exact AvLe.frz' rfl rfl rfl (by simp [a, g, e, b, f, i, j]; done) (by simp [a, g, e, b, f, i, j]; done) (by simp [a, g, e, b, f, i, j]; done))
    | (exact AvLe.list' (by simp [a, g, e, b, f, i, j]; done) (by simp [a, g, e, b, f, i, j]; done))
    | (exact AvLe.eq (by simp [a, g, e, b, f, i, j]; done) rfl)

def ref03_Read_S1 (n : Nat) (a2 : ApiAddr) (m : List Bool) : St :=
  { ch := [(5, .hptr 0 0 0), (8, aL cB m)], hp := [.var [.int .i64 a2.Space, .int .i64 a2.N]], base := 0, n := 37, cond := True }

theorem con_ref03_Read {n : Nat} {in0 : List Bool} {st1 : ApiState} {a2 : ApiAddr} {r : Bool × Int} (h : ref03_Read n in0 st1 a2 = some r) : Con Try.prog 36 [aL cB in0, .agg (cApiState st1), .agg (cApiAddr a2)] (.tup [.bool r.1, .int .i64 r.2]) [] := by
  refine con_of (T := TT0) tt_ok Try.func36 (c := _) (by unfold Try.f36; rfl) Try.ntmps36 (rs := [.tmp 6, .tmp 7]) (by rw [Try.results36]) (by unfold Try.f36; rfl) (by simp) ?_
  simp only [argsCh]
  dsimp only [ref03_Read] at h
  refine Wp.reg_seq (own := fun _ => false) tt_ok ?_
  iterate 4
    refine regv_pure (s1 := ?_) rfl rfl ?_ ?_ ?_
    rotate_left
    · simp []; rfl
    · first | (simp [] <;> omega) | skip
  refine regv_nil ?_
  refine Wp.reg_seq (own := fun _ => false) tt_ok ?_
  iterate 2
    refine regv_pure (s1 := ?_) rfl rfl ?_ ?_ ?_
    rotate_left
    · simp []; rfl
    · first | (simp [] <;> omega) | skip
  refine regv_nil ?_
  refine Wp.join (α := (List Bool)) (fun x => ref03_Read_S1 n a2 x) (fun x => ref03_Read_J1 a2 x = some r) ?_ ?_
  · clear h
    rintro m h
    simp only [ref03_Read_S1]
    dsimp only [ref03_Read_J1] at h
    refine Wp.seq ?_
    refine Wp.reg_seq (own := fun _ => false) tt_ok ?_
    iterate 4
      refine regv_pure (s1 := ?_) rfl rfl ?_ ?_ ?_
      rotate_left
      · simp []; rfl
      · first | (simp [] <;> omega) | skip
    refine (Decidable.em (a2.N < 0)).symm.elim (fun b => ?_) (fun b => ?_)
    · rw [if_neg (by simpa using b)] at h
      refine regv_pure (s1 := ?_) rfl ?_ ?_ ?_ ?_
      rotate_left
      · simp [b]; done
      · simp [b]; rfl
      · first | (simp [b] <;> omega) | (have hq := b; simp at hq; simp [b, hq]; done) | skip
      refine regv_pure (s1 := ?_) rfl ?_ ?_ ?_ ?_
      rotate_left
      · simp [b]; done
      · simp [b]; rfl
      · first | (simp [b] <;> omega) | (have hq := b; simp at hq; simp [b, hq]; done) | skip
      refine regv_pure (s1 := ?_) rfl ?_ ?_ ?_ ?_
      rotate_left
      · simp [b]; done
      · simp [b]; rfl
      · first | (simp [b] <;> omega) | (have hq := b; simp at hq; simp [b, hq]; done) | skip
      refine regv_pure (s1 := ?_) rfl ?_ ?_ ?_ ?_
      rotate_left
      · simp [b]; done
      · simp [b]; rfl
      · first | (simp [b] <;> omega) | (have hq := b; simp at hq; simp [b, hq]; done) | skip
      refine regv_pure (s1 := ?_) rfl ?_ ?_ ?_ ?_
      rotate_left
      · simp [b]; done
      · simp [b]; rfl
      · first | (simp [b] <;> omega) | (have hq := b; simp at hq; simp [b, hq]; done) | skip
      iterate 1
        refine regv_pure (s1 := ?_) rfl rfl ?_ ?_ ?_
        rotate_left
        · simp [b]; rfl
        · first | (simp [b] <;> omega) | (have hq := b; simp at hq; simp [b, hq]; done) | skip
      refine regv_nil ?_
      refine (Decidable.em (a2.N ≥ (m.length : Int))).symm.elim (fun f => ?_) (fun f => ?_)
      · rw [if_neg (by simpa using f)] at h
        refine Wp.cond false (by first | (simp [b, f] <;> omega) | (have hq := f; simp at hq; simp [b, f, hq]; done)) (fun h0 => absurd h0 (by decide)) (fun _ => ?_)
        refine Wp.skip ?_
        show Wp _ _ _ _
        refine Wp.reg_seq (own := fun _ => false) tt_ok ?_
        iterate 3
          refine regv_pure (s1 := ?_) rfl rfl ?_ ?_ ?_
          rotate_left
          · simp [b, f]; rfl
          · first | (simp [b, f] <;> omega) | (have hq := f; simp at hq; simp [b, f, hq]; done) | skip
        obtain ⟨p, o, h⟩ := obind h
        obtain ⟨k, i, g⟩ := atI_some o
        try simp [b, f] at i
        try simp only [Int.toNat_natCast, Int.reduceToNat, Nat.zero_add, Nat.add_zero] at g
        have j := getElem_of g
        iterate 4
          refine regv_pure (s1 := ?_) rfl rfl ?_ ?_ ?_
          rotate_left
          · simp [b, f, k, i, g, j]; rfl
          · first | (simp [b, f, k, i, g, j] <;> omega) | (have hq := j; simp at hq; simp [b, f, k, i, g, j, hq]; done) | skip
        refine regv_nil ?_
        cases h
        refine Wp.ret (endQ_ret0 rfl ?_)
        repeat' first | exact All2.nil | refine All2.cons ?_ ?_ | refine AvLe.tups ?_ | refine AvLe.aggs ?_
        all_goals first
          | (exact AvLe.refl _ rfl)
          | (exact AvLe.nil _)
          | (exact AvLe.znil _)
          | (exact AvLe.ghost _ rfl)
          | (exact AvLe.zghost _ rfl)
          | (exact AvLe.sl' rfl (by simp [b, f, k, i, g, j]; done) (by simp [b, f, k, i, g, j]; done))
          | (exact AvLe.frz' rfl rfl rfl (by simp [b, f, k, i, g, j]; done) (by simp [b, f, k, i, g, j]; done) (by simp [b, f, k, i, g, j]; done))
          | (exact AvLe.list' (by simp [b, f, k, i, g, j]; done) (by simp [b, f, k, i, g, j]; done))
          | (exact AvLe.eq (by simp [b, f, k, i, g, j]; done) rfl)
      · rw [if_pos (decide_eq_true f)] at h
        refine Wp.cond true (by first | (simp [b, f] <;> omega) | (have hq := f; simp at hq; simp [b, f, hq]; done)) (fun _ => ?_) (fun h0 => absurd h0 (by decide))
        refine Wp.reg_seq (own := fun _ => false) tt_ok ?_
        iterate 2
          refine regv_pure (s1 := ?_) rfl rfl ?_ ?_ ?_
          rotate_left
          · simp [b, f]; rfl
          · first | (simp [b, f] <;> omega) | (have hq := f; simp at hq; simp [b, f, hq]; done) | skip
        refine regv_nil ?_
        cases h
        refine Wp.ret (endQ_ret0 rfl ?_)
        repeat' first | exact All2.nil | refine All2.cons ?_ ?_ | refine AvLe.tups ?_ | refine AvLe.aggs ?_
        all_goals first
          | (exact AvLe.refl _ rfl)
          | (exact AvLe.nil _)
          | (exact AvLe.znil _)
          | (exact AvLe.ghost _ rfl)
          | (exact AvLe.zghost _ rfl)
          | (exact AvLe.sl' rfl (by simp [b, f]; done) (by simp [b, f]; done))
          | (exact AvLe.frz' rfl rfl rfl (by simp [b, f]; done) (by simp [b, f]; done) (by simp [b, f]; done))
          | (exact AvLe.list' (by simp [b, f]; done) (by simp [b, f]; done))
          | (exact AvLe.eq (by simp [b, f]; done) rfl)
    · rw [if_pos (decide_eq_true b)] at h
      refine regv_skip (s1 := ?_) ?_ ?_ ?_
      rotate_left
      · simp [b]; done
      · simp [b]; rfl
      refine regv_skip (s1 := ?_) ?_ ?_ ?_
      rotate_left
      · simp [b]; done
      · simp [b]; rfl
      refine regv_skip (s1 := ?_) ?_ ?_ ?_
      rotate_left
      · simp [b]; done
      · simp [b]; rfl
      refine regv_skip (s1 := ?_) ?_ ?_ ?_
      rotate_left
      · simp [b]; done
      · simp [b]; rfl
      refine regv_skip (s1 := ?_) ?_ ?_ ?_
      rotate_left
      · simp [b]; done
      · simp [b]; rfl
      iterate 1
        refine regv_pure (s1 := ?_) rfl rfl ?_ ?_ ?_
        rotate_left
        · simp [b]; rfl
        · first | (simp [b] <;> omega) | (have hq := b; simp at hq; simp [b, hq]; done) | skip
      refine regv_nil ?_
      refine Wp.cond true (by first | (simp [b] <;> omega) | (have hq := b; simp at hq; simp [b, hq]; done)) (fun _ => ?_) (fun h0 => absurd h0 (by decide))
      refine Wp.reg_seq (own := fun _ => false) tt_ok ?_
      iterate 2
        refine regv_pure (s1 := ?_) rfl rfl ?_ ?_ ?_
        rotate_left
        · simp [b]; rfl
        · first | (simp [b] <;> omega) | (have hq := b; simp at hq; simp [b, hq]; done) | skip
      refine regv_nil ?_
      cases h
      refine Wp.ret (endQ_ret0 rfl ?_)
      repeat' first | exact All2.nil | refine All2.cons ?_ ?_ | refine AvLe.tups ?_ | refine AvLe.aggs ?_
      all_goals first
        | (exact AvLe.refl _ rfl)
        | (exact AvLe.nil _)
        | (exact AvLe.znil _)
        | (exact AvLe.ghost _ rfl)
        | (exact AvLe.zghost _ rfl)
        | (exact AvLe.sl' rfl (by simp [b]; done) (by simp [b]; done))
        | (exact AvLe.frz' rfl rfl rfl (by simp [b]; done) (by simp [b]; done) (by simp [b]; done))
        | (exact AvLe.list' (by simp [b]; done) (by simp [b]; done))
        | (exact AvLe.eq (by simp [b]; done) rfl)
  · skip
    refine Wp.reg_seq (own := fun _ => false) tt_ok ?_
    iterate 2
      refine regv_pure (s1 := ?_) rfl rfl ?_ ?_ ?_
      rotate_left
      · simp []; rfl
      · first | (simp [] <;> omega) | skip
    refine regv_nil ?_
    refine Wp.block ?_
    refine Wp.reg_seq (own := fun _ => false) tt_ok ?_
    iterate 2
      refine regv_pure (s1 := ?_) rfl rfl ?_ ?_ ?_
      rotate_left
      · simp []; rfl
      · first | (simp [] <;> omega) | skip
    refine regv_nil ?_
    cases a : (a2.Space == 0)
    · rw [a, if_neg (by simp)] at h
      refine Wp.cond false (by first | (simp [a] <;> omega) | (have hq := a; simp at hq; simp [a, hq]; done)) (fun h0 => absurd h0 (by decide)) (fun _ => ?_)
      refine Wp.reg_seq (own := fun _ => false) tt_ok ?_
      iterate 2
        refine regv_pure (s1 := ?_) rfl rfl ?_ ?_ ?_
        rotate_left
        · simp [a]; rfl
        · first | (simp [a] <;> omega) | (have hq := a; simp at hq; simp [a, hq]; done) | skip
      refine regv_nil ?_
      cases d : (a2.Space == 1)
      · rw [d, if_neg (by simp)] at h
        refine Wp.cond false (by first | (simp [a, d] <;> omega) | (have hq := d; simp at hq; simp [a, d, hq]; done)) (fun h0 => absurd h0 (by decide)) (fun _ => ?_)
        refine Wp.reg_seq (own := fun _ => false) tt_ok ?_
        iterate 2
          refine regv_pure (s1 := ?_) rfl rfl ?_ ?_ ?_
          rotate_left
          · simp [a, d]; rfl
          · first | (simp [a, d] <;> omega) | (have hq := d; simp at hq; simp [a, d, hq]; done) | skip
        refine regv_nil ?_
        cases e : (a2.Space == 2)
        · rw [e, if_neg (by simp)] at h
          refine Wp.cond false (by first | (simp [a, d, e] <;> omega) | (have hq := e; simp at hq; simp [a, d, e, hq]; done)) (fun h0 => absurd h0 (by decide)) (fun _ => ?_)
          refine Wp.reg_seq (own := fun _ => false) tt_ok ?_
          iterate 2
            refine regv_pure (s1 := ?_) rfl rfl ?_ ?_ ?_
            rotate_left
            · simp [a, d, e]; rfl
            · first | (simp [a, d, e] <;> omega) | (have hq := e; simp at hq; simp [a, d, e, hq]; done) | skip
          refine regv_nil ?_
          cases h
          refine Wp.ret (endQ_ret0 rfl ?_)
          repeat' first | exact All2.nil | refine All2.cons ?_ ?_ | refine AvLe.tups ?_ | refine AvLe.aggs ?_
          all_goals first
            | (exact AvLe.refl _ rfl)
            | (exact AvLe.nil _)
            | (exact AvLe.znil _)
            | (exact AvLe.ghost _ rfl)
            | (exact AvLe.zghost _ rfl)
            | (exact AvLe.sl' rfl (by simp [a, d, e]; done) (by simp [a, d, e]; done))
            | (exact AvLe.frz' rfl rfl rfl (by simp [a, d, e]; done) (by simp [a, d, e]; done) (by simp [a, d, e]; done))
            | (exact AvLe.list' (by simp [a, d, e]; done) (by simp [a, d, e]; done))
            | (exact AvLe.eq (by simp [a, d, e]; done) rfl)
        · rw [e, if_pos rfl] at h
          refine Wp.cond true (by first | (simp [a, d, e] <;> omega) | (have hq := e; simp at hq; simp [a, d, e, hq]; done)) (fun _ => ?_) (fun h0 => absurd h0 (by decide))
          refine Wp.reg (own := fun _ => false) tt_ok ?_
          iterate 3
            refine regv_pure (s1 := ?_) rfl rfl ?_ ?_ ?_
            rotate_left
            · simp [a, d, e]; rfl
            · first | (simp [a, d, e] <;> omega) | (have hq := e; simp at hq; simp [a, d, e, hq]; done) | skip
          refine regv_nil ?_
          refine next_mk st1.M h ?_
          refine Reloc.mk2 [some 1] rfl rfl rfl (by decide) ?_ ?_
          · repeat' first | exact objsLe_nil | refine objsLe_cons ?_ ?_
            all_goals first
              | exact trivial
              | (refine ObjLe.var' rfl rfl ?_ rfl
                 repeat' first | exact All2.nil | refine All2.cons ?_ ?_
                 all_goals first | (exact AvLe.refl _ rfl) | (exact AvLe.sl _ _ _ _ rfl) | (exact AvLe.hptr _ _ _ _ rfl) | (exact AvLe.mp _ _ rfl) | (exact AvLe.nil _) | (exact AvLe.znil _) | (exact AvLe.ghost _ rfl) | (exact AvLe.zghost _ rfl) | (exact AvLe.sl' rfl (by simp [a, d, e]; done) (by first | (simp [a, d, e] <;> omega) | omega)) | (exact AvLe.frz2 rfl (by simp) rfl (by simp [a, d, e]; done) (by simp [a, d, e]; done) (by simp [a, d, e]; done)) | (exact AvLe.list' (by simp [a, d, e]; done) (by simp [a, d, e]; done)) | (exact AvLe.eq (by simp [a, d, e]; done) rfl))
              | (exact ObjLe.map' rfl rfl)
              | (exact ObjLe.ghost' rfl (by decide))
              | (exact ObjLe.arr' rfl rfl (by first | (simp [a, d, e] <;> omega)) (fun _ _ => by first | rfl | (simp [a, d, e]; done)))
              | ((simp [a, d, e]; done))
          · repeat' first | exact chLe_nil | refine chLe_cons ?_ ?_
            all_goals first
              | (exact AvLe.refl _ rfl)
              | (exact AvLe.sl _ _ _ _ rfl)
              | (exact AvLe.hptr _ _ _ _ rfl)
              | (exact AvLe.mp _ _ rfl)
              | (exact AvLe.nil _)
              | (exact AvLe.znil _)
              | (exact AvLe.ghost _ rfl)
              | (exact AvLe.zghost _ rfl)
              | (exact AvLe.sl' rfl (by simp [a, d, e]; done) (by first | (simp [a, d, e] <;> omega) | omega))
              | (exact AvLe.frz2 rfl (by simp) rfl (by simp [a, d, e]; done) (by simp [a, d, e]; done) (by simp [a, d, e]; done))
              | (exact AvLe.list' (by simp [a, d, e]; done) (by simp [a, d, e]; done))
              | (exact AvLe.eq (by simp [a, d, e]; done) rfl)
      · rw [d, if_pos rfl] at h
        refine Wp.cond true (by first | (simp [a, d] <;> omega) | (have hq := d; simp at hq; simp [a, d, hq]; done)) (fun _ => ?_) (fun h0 => absurd h0 (by decide))
        refine Wp.reg (own := fun _ => false) tt_ok ?_
        iterate 3
          refine regv_pure (s1 := ?_) rfl rfl ?_ ?_ ?_
          rotate_left
          · simp [a, d]; rfl
          · first | (simp [a, d] <;> omega) | (have hq := d; simp at hq; simp [a, d, hq]; done) | skip
        refine regv_nil ?_
        refine next_mk st1.Q h ?_
        refine Reloc.mk2 [some 1] rfl rfl rfl (by decide) ?_ ?_
        · repeat' first | exact objsLe_nil | refine objsLe_cons ?_ ?_
          all_goals first
            | exact trivial
            | (refine ObjLe.var' rfl rfl ?_ rfl
               repeat' first | exact All2.nil | refine All2.cons ?_ ?_
               all_goals first | (exact AvLe.refl _ rfl) | (exact AvLe.sl _ _ _ _ rfl) | (exact AvLe.hptr _ _ _ _ rfl) | (exact AvLe.mp _ _ rfl) | (exact AvLe.nil _) | (exact AvLe.znil _) | (exact AvLe.ghost _ rfl) | (exact AvLe.zghost _ rfl) | (exact AvLe.sl' rfl (by simp [a, d]; done) (by first | (simp [a, d] <;> omega) | omega)) | (exact AvLe.frz2 rfl (by simp) rfl (by simp [a, d]; done) (by simp [a, d]; done) (by simp [a, d]; done)) | (exact AvLe.list' (by simp [a, d]; done) (by simp [a, d]; done)) | (exact AvLe.eq (by simp [a, d]; done) rfl))
            | (exact ObjLe.map' rfl rfl)
            | (exact ObjLe.ghost' rfl (by decide))
            | (exact ObjLe.arr' rfl rfl (by first | (simp [a, d] <;> omega)) (fun _ _ => by first | rfl | (simp [a, d]; done)))
            | ((simp [a, d]; done))
        · repeat' first | exact chLe_nil | refine chLe_cons ?_ ?_
          all_goals first
            | (exact AvLe.refl _ rfl)
            | (exact AvLe.sl _ _ _ _ rfl)
            | (exact AvLe.hptr _ _ _ _ rfl)
            | (exact AvLe.mp _ _ rfl)
            | (exact AvLe.nil _)
            | (exact AvLe.znil _)
            | (exact AvLe.ghost _ rfl)
            | (exact AvLe.zghost _ rfl)
            | (exact AvLe.sl' rfl (by simp [a, d]; done) (by first | (simp [a, d] <;> omega) | omega))
            | (exact AvLe.frz2 rfl (by simp) rfl (by simp [a, d]; done) (by simp [a, d]; done) (by simp [a, d]; done))
            | (exact AvLe.list' (by simp [a, d]; done) (by simp [a, d]; done))
            | (exact AvLe.eq (by simp [a, d]; done) rfl)
    · rw [a, if_pos rfl] at h
      refine Wp.cond true (by first | (simp [a] <;> omega) | (have hq := a; simp at hq; simp [a, hq]; done)) (fun _ => ?_) (fun h0 => absurd h0 (by decide))
      refine Wp.skip ?_
      refine next_mk in0 h ?_
      refine Reloc.mk2 [some 1] rfl rfl rfl (by decide) ?_ ?_
      · repeat' first | exact objsLe_nil | refine objsLe_cons ?_ ?_
        all_goals first
          | exact trivial
          | (refine ObjLe.var' rfl rfl ?_ rfl
             repeat' first | exact All2.nil | refine All2.cons ?_ ?_
             all_goals first | (exact AvLe.refl _ rfl) | (exact AvLe.sl _ _ _ _ rfl) | (exact AvLe.hptr _ _ _ _ rfl) | (exact AvLe.mp _ _ rfl) | (exact AvLe.nil _) | (exact AvLe.znil _) | (exact AvLe.ghost _ rfl) | (exact AvLe.zghost _ rfl) | (exact AvLe.sl' rfl (by simp [a]; done) (by first | (simp [a] <;> omega) | omega)) | (exact AvLe.frz2 rfl (by simp) rfl (by simp [a]; done) (by simp [a]; done) (by simp [a]; done)) | (exact AvLe.list' (by simp [a]; done) (by simp [a]; done)) | (exact AvLe.eq (by simp [a]; done) rfl))
          | (exact ObjLe.map' rfl rfl)
          | (exact ObjLe.ghost' rfl (by decide))
          | (exact ObjLe.arr' rfl rfl (by first | (simp [a] <;> omega)) (fun _ _ => by first | rfl | (simp [a]; done)))
          | ((simp [a]; done))
      · repeat' first | exact chLe_nil | refine chLe_cons ?_ ?_
        all_goals first
          | (exact AvLe.refl _ rfl)
          | (exact AvLe.sl _ _ _ _ rfl)
          | (exact AvLe.hptr _ _ _ _ rfl)
          | (exact AvLe.mp _ _ rfl)
          | (exact AvLe.nil _)
          | (exact AvLe.znil _)
          | (exact AvLe.ghost _ rfl)
          | (exact AvLe.zghost _ rfl)
          | (exact AvLe.sl' rfl (by simp [a]; done) (by first | (simp [a] <;> omega) | omega))
          | (exact AvLe.frz2 rfl (by simp) rfl (by simp [a]; done) (by simp [a]; done) (by simp [a]; done))
          | (exact AvLe.list' (by simp [a]; done) (by simp [a]; done))
          | (exact AvLe.eq (by simp [a]; done) rfl)

def ref16_Contacts_S1 (n : Nat) (_append0 : ApiRung) (a1 : List Bool) (a2 : ApiState) (a3 : Int) (ao : ApiState) (au : List Bool) (ap : Int) (az : List Bool) (aq : Int) : St :=
  { ch := [(1, aL cB a1), (3, .int .i64 a3), (4, .hptr 0 0 0), (6, .hptr 1 0 0), (9, .hptr 2 0 0), (11, .hptr 3 0 0), (12, .sl 4 0 au.length), (13, .int .i64 aq), (14, .int .i64 ap)], hp := [.var [.str _append0.Label, aL cApiContact _append0.Contacts, aL cApiCoil _append0.Coils, .str _append0.Jump], .var [aL cB a2.Q, aL cB a2.M, aL cB a2.E], .var [.nilsl, .nilsl, .nilsl], .var [aL cB ao.Q, aL cB ao.M, aL cB az], .arr 1 au.length (rw (au.map cB))], base := 0, n := 116, cond := True }

theorem con_ref16_Contacts {n : Nat} {_append0 : ApiRung} {a1 : List Bool} {a2 : ApiState} {a3 : Int} {r : (List Bool) × ApiState × Int} (h : ref16_Contacts n _append0 a1 a2 a3 = some r) : Con Try.prog 24 [.agg (cApiRung _append0), aL cB a1, .agg (cApiState a2), .int .i64 a3] (.tup [aL cB r.1, .agg (cApiState r.2.1), .int .i64 r.2.2]) [] := by
  refine con_of (T := TT0) tt_ok Try.func24 (c := _) (by unfold Try.f24; rfl) Try.ntmps24 (rs := [.tmp 8, .cell 9 36, .tmp 10]) (by rw [Try.results24]) (by unfold Try.f24; rfl) (by simp) ?_
  simp only [argsCh]
  dsimp only [ref16_Contacts] at h
  refine Wp.reg_seq (own := fun _ => false) tt_ok ?_
  iterate 5
    refine regv_pure (s1 := ?_) rfl rfl ?_ ?_ ?_
    rotate_left
    · simp []; rfl
    · first | (simp [] <;> omega) | skip
  refine regv_nil ?_
  refine Wp.reg_seq (own := fun _ => false) tt_ok ?_
  iterate 1
    refine regv_pure (s1 := ?_) rfl rfl ?_ ?_ ?_
    rotate_left
    · simp []; rfl
    · first | (simp [] <;> omega) | skip
  obtain ⟨ao, bb, h⟩ := obind h
  refine regv_call2 (s' := ?_) (p := ?_) (con_ref03_Clone bb) rfl rfl rfl rfl ?_ ?_ ?_ ?_ ?_ ?_
  rotate_left 2
  · simp []; rfl
  · first | exact .inl rfl | (refine .inl ?_; simp []; done) | (refine .inr ?_; dsimp only; repeat' first | exact All2.nil | refine All2.cons ?_ ?_) <;> first | exact AvLe.refl _ rfl | exact AvLe.nil _ | exact AvLe.znil _ | exact AvLe.list' (by simp []; done) (by simp []; done) | exact AvLe.eq (by simp []; done) rfl
  · first | (simp [] <;> omega) | skip
  · simp
  · simp []; rfl
  iterate 2
    refine regv_pure (s1 := ?_) rfl rfl ?_ ?_ ?_
    rotate_left
    · simp []; rfl
    · first | (simp [] <;> omega) | skip
  refine regv_nil ?_
  refine Wp.reg_seq (own := fun _ => false) tt_ok ?_
  iterate 1
    refine regv_pure (s1 := ?_) rfl rfl ?_ ?_ ?_
    rotate_left
    · simp []; rfl
    · first | (simp [] <;> omega) | skip
  refine regv_nil ?_
  refine Wp.reg_seq (own := fun _ => false) tt_ok ?_
  iterate 1
    refine regv_pure (s1 := ?_) rfl rfl ?_ ?_ ?_
    rotate_left
    · simp []; rfl
    · first | (simp [] <;> omega) | skip
  refine regv_nil ?_
  refine Wp.seq ?_
  refine Wp.reg_seq (own := fun _ => false) tt_ok ?_
  iterate 1
    refine regv_pure (s1 := ?_) rfl rfl ?_ ?_ ?_
    rotate_left
    · simp []; rfl
    · first | (simp [] <;> omega) | skip
  refine regv_nil ?_
  refine Wp.block ?_
  refine Wp.loopF (α := (List Bool) × Int × (List Bool) × Int) (fun x => ref16_Contacts_S1 n _append0 a1 a2 a3 ao x.1 x.2.1 x.2.2.1 x.2.2.2) (fun m x => ref16_Contacts_L1 n _append0 a1 a2 a3 ao m x.1 x.2.1 x.2.2.1 x.2.2.2 = some r) (fun _ h => by cases h) ?_ n ([], 0, ao.E, 0) h ?_
  rotate_left
  · simp only [ref16_Contacts_S1]
    refine Reloc.mk2 [some 0, some 1, some 2, some 3, none] rfl rfl rfl (by decide) ?_ ?_
    · repeat' first | exact objsLe_nil | refine objsLe_cons ?_ ?_
      all_goals first
        | exact trivial
        | (refine ObjLe.var' rfl rfl ?_ rfl
           repeat' first | exact All2.nil | refine All2.cons ?_ ?_
           all_goals first | (exact AvLe.refl _ rfl) | (exact AvLe.sl _ _ _ _ rfl) | (exact AvLe.hptr _ _ _ _ rfl) | (exact AvLe.mp _ _ rfl) | (exact AvLe.nil _) | (exact AvLe.znil _) | (exact AvLe.ghost _ rfl) | (exact AvLe.zghost _ rfl) | (exact AvLe.sl' rfl (by simp []; done) (by first | (simp [] <;> omega) | omega)) | (exact AvLe.frz2 rfl (by simp) rfl (by simp []; done) (by simp []; done) (by simp []; done)) | (exact AvLe.list' (by simp []; done) (by simp []; done)) | (exact AvLe.eq (by simp []; done) rfl))
        | (exact ObjLe.map' rfl rfl)
        | (exact ObjLe.ghost' rfl (by decide))
        | (exact ObjLe.arr' rfl rfl (by first | (simp [] <;> omega)) (fun _ _ => by first | rfl | (simp []; done)))
        | ((simp []; done))
    · repeat' first | exact chLe_nil | refine chLe_cons ?_ ?_
      all_goals first
        | (exact AvLe.refl _ rfl)
        | (exact AvLe.sl _ _ _ _ rfl)
        | (exact AvLe.hptr _ _ _ _ rfl)
        | (exact AvLe.mp _ _ rfl)
        | (exact AvLe.nil _)
        | (exact AvLe.znil _)
        | (exact AvLe.ghost _ rfl)
        | (exact AvLe.zghost _ rfl)
        | (exact AvLe.sl' rfl (by simp []; done) (by first | (simp [] <;> omega) | omega))
        | (exact AvLe.frz2 rfl (by simp) rfl (by simp []; done) (by simp []; done) (by simp []; done))
        | (exact AvLe.list' (by simp []; done) (by simp []; done))
        | (exact AvLe.eq (by simp []; done) rfl)
  rintro rec_n1 ⟨au, ap, az, aq⟩ h
  simp only [ref16_Contacts_S1]
  dsimp only [ref16_Contacts_L1] at h
  refine Wp.seq ?_
  refine Wp.reg_seq (own := fun _ => false) tt_ok ?_
  iterate 5
    refine regv_pure (s1 := ?_) rfl rfl ?_ ?_ ?_
    rotate_left
    · simp []; rfl
    · first | (simp [] <;> omega) | skip
  refine regv_nil ?_
  refine (Decidable.em (ap < (_append0.Contacts.length : Int))).symm.elim (fun g => ?_) (fun g => ?_)
  · rw [if_neg (by simpa using g)] at h
    refine Wp.cond false (by first | (simp [g] <;> omega) | (have hq := g; simp at hq; simp [g, hq]; done)) (fun h0 => absurd h0 (by decide)) (fun _ => ?_)
    refine Wp.exit ?_
    show Wp _ _ _ _
    refine Wp.drawn (own := fun _ => false) tt_ok mixed [3, 4] (by decide +kernel) trivial ?_
    refine regI_upto 3 (r := ?_) ?_ ?_ ?_
    rotate_left
    · simp [List.range, List.range.loop, g]; rfl
    · first | (simp [g] <;> omega) | (have hq := g; simp at hq; simp [g, hq]; done) | skip
    refine regI_bar (r := ?_) tt_ok rfl rfl rfl rfl ?_ ?_ ?_
    rotate_left
    · simp [g]; rfl
    · first | (simp [g] <;> omega) | (have hq := g; simp at hq; simp [g, hq]; done) | skip
    refine regI_upto 1 (r := ?_) ?_ ?_ ?_
    rotate_left
    · simp [List.range, List.range.loop, g]; rfl
    · first | (simp [g] <;> omega) | (have hq := g; simp at hq; simp [g, hq]; done) | skip
    refine regI_nil ?_
    cases h
    refine Wp.ret (endQ_ret0 rfl ?_)
    repeat' first | exact All2.nil | refine All2.cons ?_ ?_ | refine AvLe.tups ?_ | refine AvLe.aggs ?_
    all_goals first
      | (exact AvLe.refl _ rfl)
      | (exact AvLe.nil _)
      | (exact AvLe.znil _)
      | (exact AvLe.ghost _ rfl)
      | (exact AvLe.zghost _ rfl)
      | (exact AvLe.sl' rfl (by simp [g]; done) (by simp [g]; done))
      | (exact AvLe.frz' rfl rfl rfl (by simp [g]; done) (by simp [g]; done) (by simp [g]; done))
      | (exact AvLe.list' (by simp [g]; done) (by simp [g]; done))
      | (exact AvLe.eq (by simp [g]; done) rfl)
  · rw [if_pos (decide_eq_true g)] at h
    refine Wp.cond true (by first | (simp [g] <;> omega) | (have hq := g; simp at hq; simp [g, hq]; done)) (fun _ => ?_) (fun h0 => absurd h0 (by decide))
    refine Wp.skip ?_
    show Wp _ _ _ _
    refine Wp.seq ?_
    refine Wp.block ?_
    refine Wp.reg_seq (own := fun _ => false) tt_ok ?_
    iterate 3
      refine regv_pure (s1 := ?_) rfl rfl ?_ ?_ ?_
      rotate_left
      · simp [g]; rfl
      · first | (simp [g] <;> omega) | (have hq := g; simp at hq; simp [g, hq]; done) | skip
    obtain ⟨ba, bc, h⟩ := obind h
    obtain ⟨f, e, a⟩ := atI_some bc
    try simp [g] at e
    try simp only [Int.toNat_natCast, Int.reduceToNat, Nat.zero_add, Nat.add_zero] at a
    have b := getElem_of a
    iterate 4
      refine regv_pure (s1 := ?_) rfl rfl ?_ ?_ ?_
      rotate_left
      · simp [g, f, e, a, b]; rfl
      · first | (simp [g, f, e, a, b] <;> omega) | (have hq := b; simp at hq; simp [g, f, e, a, b, hq]; done) | skip
    refine regv_nil ?_
    refine Wp.seq ?_
    refine Wp.reg_seq (own := fun _ => false) tt_ok ?_
    iterate 4
      refine regv_pure (s1 := ?_) rfl rfl ?_ ?_ ?_
      rotate_left
      · simp [g, f, e, a, b]; rfl
      · first | (simp [g, f, e, a, b] <;> omega) | (have hq := b; simp at hq; simp [g, f, e, a, b, hq]; done) | skip
    refine (Decidable.em (ba.Kind < 0)).symm.elim (fun i => ?_) (fun i => ?_)
    · rw [if_neg (by simpa using i)] at h
      refine regv_pure (s1 := ?_) rfl ?_ ?_ ?_ ?_
      rotate_left
      · simp [g, f, e, a, b, i]; done
      · simp [g, f, e, a, b, i]; rfl
      · first | (simp [g, f, e, a, b, i] <;> omega) | (have hq := i; simp at hq; simp [g, f, e, a, b, i, hq]; done) | skip
      refine regv_pure (s1 := ?_) rfl ?_ ?_ ?_ ?_
      rotate_left
      · simp [g, f, e, a, b, i]; done
      · simp [g, f, e, a, b, i]; rfl
      · first | (simp [g, f, e, a, b, i] <;> omega) | (have hq := i; simp at hq; simp [g, f, e, a, b, i, hq]; done) | skip
      refine regv_pure (s1 := ?_) rfl ?_ ?_ ?_ ?_
      rotate_left
      · simp [g, f, e, a, b, i]; done
      · simp [g, f, e, a, b, i]; rfl
      · first | (simp [g, f, e, a, b, i] <;> omega) | (have hq := i; simp at hq; simp [g, f, e, a, b, i, hq]; done) | skip
      iterate 1
        refine regv_pure (s1 := ?_) rfl rfl ?_ ?_ ?_
        rotate_left
        · simp [g, f, e, a, b, i]; rfl
        · first | (simp [g, f, e, a, b, i] <;> omega) | (have hq := i; simp at hq; simp [g, f, e, a, b, i, hq]; done) | skip
      refine regv_nil ?_
      refine (Decidable.em (ba.Kind > 3)).symm.elim (fun j => ?_) (fun j => ?_)
      · rw [if_neg (by simpa using j)] at h
        refine Wp.cond false (by first | (simp [g, f, e, a, b, i, j] <;> omega) | (have hq := j; simp at hq; simp [g, f, e, a, b, i, j, hq]; done)) (fun h0 => absurd h0 (by decide)) (fun _ => ?_)
        refine Wp.skip ?_
        show Wp _ _ _ _
        refine Wp.reg_seq (own := fun _ => false) tt_ok ?_
        iterate 4
          refine regv_pure (s1 := ?_) rfl rfl ?_ ?_ ?_
          rotate_left
          · simp [g, f, e, a, b, i, j]; rfl
          · first | (simp [g, f, e, a, b, i, j] <;> omega) | (have hq := j; simp at hq; simp [g, f, e, a, b, i, j, hq]; done) | skip
        obtain ⟨⟨bi, bj⟩, bd, h⟩ := obind h
        dsimp only at h
        refine regv_call2 (s' := ?_) (p := ?_) (con_ref03_Read bd) rfl rfl rfl rfl ?_ ?_ ?_ ?_ ?_ ?_
        rotate_left 2
        · simp [g, f, e, a, b, i, j]; rfl
        · first | exact .inl rfl | (refine .inl ?_; simp [g, f, e, a, b, i, j]; done) | (refine .inr ?_; dsimp only; repeat' first | exact All2.nil | refine All2.cons ?_ ?_) <;> first | exact AvLe.refl _ rfl | exact AvLe.nil _ | exact AvLe.znil _ | exact AvLe.list' (by simp [g, f, e, a, b, i, j]; done) (by simp [g, f, e, a, b, i, j]; done) | exact AvLe.eq (by simp [g, f, e, a, b, i, j]; done) rfl
        · first | (simp [g, f, e, a, b, i, j] <;> omega) | (have hq := j; simp at hq; simp [g, f, e, a, b, i, j, hq]; done) | skip
        · simp
        · simp [g, f, e, a, b, i, j]; rfl
        iterate 5
          refine regv_pure (s1 := ?_) rfl rfl ?_ ?_ ?_
          rotate_left
          · simp [g, f, e, a, b, i, j]; rfl
          · first | (simp [g, f, e, a, b, i, j] <;> omega) | (have hq := j; simp at hq; simp [g, f, e, a, b, i, j, hq]; done) | skip
        refine regv_nil ?_
        refine Wp.seq ?_
        refine Wp.reg_seq (own := fun _ => false) tt_ok ?_
        iterate 2
          refine regv_pure (s1 := ?_) rfl rfl ?_ ?_ ?_
          rotate_left
          · simp [g, f, e, a, b, i, j]; rfl
          · first | (simp [g, f, e, a, b, i, j] <;> omega) | (have hq := j; simp at hq; simp [g, f, e, a, b, i, j, hq]; done) | skip
        refine regv_nil ?_
        cases k : (bj != 0)
        · rw [k, if_neg (by simp)] at h
          refine Wp.cond false (by first | (simp [g, f, e, a, b, i, j, k] <;> omega) | (have hq := k; simp at hq; simp [g, f, e, a, b, i, j, k, hq]; done)) (fun h0 => absurd h0 (by decide)) (fun _ => ?_)
          refine Wp.skip ?_
          show Wp _ _ _ _
          refine Wp.seq ?_
          refine Wp.reg_seq (own := fun _ => false) tt_ok ?_
          iterate 3
            refine regv_pure (s1 := ?_) rfl rfl ?_ ?_ ?_
            rotate_left
            · simp [g, f, e, a, b, i, j, k]; rfl
            · first | (simp [g, f, e, a, b, i, j, k] <;> omega) | (have hq := k; simp at hq; simp [g, f, e, a, b, i, j, k, hq]; done) | skip
          refine regv_nil ?_
          refine (Decidable.em (ba.Kind < 2)).symm.elim (fun o => ?_) (fun o => ?_)
          · rw [if_neg (by simpa using o)] at h
            refine Wp.cond false (by first | (simp [g, f, e, a, b, i, j, k, o] <;> omega) | (have hq := o; simp at hq; simp [g, f, e, a, b, i, j, k, o, hq]; done)) (fun h0 => absurd h0 (by decide)) (fun _ => ?_)
            refine Wp.skip ?_
            show Wp _ _ _ _
            refine Wp.seq ?_
            refine Wp.reg_seq (own := fun _ => false) tt_ok ?_
            iterate 3
              refine regv_pure (s1 := ?_) rfl rfl ?_ ?_ ?_
              rotate_left
              · simp [g, f, e, a, b, i, j, k, o]; rfl
              · first | (simp [g, f, e, a, b, i, j, k, o] <;> omega) | (have hq := o; simp at hq; simp [g, f, e, a, b, i, j, k, o, hq]; done) | skip
            refine (Decidable.em (a3 < 0)).symm.elim (fun q => ?_) (fun q => ?_)
            · rw [if_neg (by simpa using q)] at h
              refine regv_pure (s1 := ?_) rfl ?_ ?_ ?_ ?_
              rotate_left
              · simp [g, f, e, a, b, i, j, k, o, q]; done
              · simp [g, f, e, a, b, i, j, k, o, q]; rfl
              · first | (simp [g, f, e, a, b, i, j, k, o, q] <;> omega) | (have hq := q; simp at hq; simp [g, f, e, a, b, i, j, k, o, q, hq]; done) | skip
              refine regv_pure (s1 := ?_) rfl ?_ ?_ ?_ ?_
              rotate_left
              · simp [g, f, e, a, b, i, j, k, o, q]; done
              · simp [g, f, e, a, b, i, j, k, o, q]; rfl
              · first | (simp [g, f, e, a, b, i, j, k, o, q] <;> omega) | (have hq := q; simp at hq; simp [g, f, e, a, b, i, j, k, o, q, hq]; done) | skip
              refine regv_pure (s1 := ?_) rfl ?_ ?_ ?_ ?_
              rotate_left
              · simp [g, f, e, a, b, i, j, k, o, q]; done
              · simp [g, f, e, a, b, i, j, k, o, q]; rfl
              · first | (simp [g, f, e, a, b, i, j, k, o, q] <;> omega) | (have hq := q; simp at hq; simp [g, f, e, a, b, i, j, k, o, q, hq]; done) | skip
              refine regv_pure (s1 := ?_) rfl ?_ ?_ ?_ ?_
              rotate_left
              · simp [g, f, e, a, b, i, j, k, o, q]; done
              · simp [g, f, e, a, b, i, j, k, o, q]; rfl
              · first | (simp [g, f, e, a, b, i, j, k, o, q] <;> omega) | (have hq := q; simp at hq; simp [g, f, e, a, b, i, j, k, o, q, hq]; done) | skip
              refine regv_pure (s1 := ?_) rfl ?_ ?_ ?_ ?_
              rotate_left
              · simp [g, f, e, a, b, i, j, k, o, q]; done
              · simp [g, f, e, a, b, i, j, k, o, q]; rfl
              · first | (simp [g, f, e, a, b, i, j, k, o, q] <;> omega) | (have hq := q; simp at hq; simp [g, f, e, a, b, i, j, k, o, q, hq]; done) | skip
              iterate 2
                refine regv_pure (s1 := ?_) rfl rfl ?_ ?_ ?_
                rotate_left
                · simp [g, f, e, a, b, i, j, k, o, q]; rfl
                · first | (simp [g, f, e, a, b, i, j, k, o, q] <;> omega) | (have hq := q; simp at hq; simp [g, f, e, a, b, i, j, k, o, q, hq]; done) | skip
              refine (Decidable.em (a3 ≥ (a2.E.length : Int))).symm.elim (fun u => ?_) (fun u => ?_)
              · rw [if_neg (by simpa using u)] at h
                refine regv_pure (s1 := ?_) rfl ?_ ?_ ?_ ?_
                rotate_left
                · simp [g, f, e, a, b, i, j, k, o, q, u]; done
                · simp [g, f, e, a, b, i, j, k, o, q, u]; rfl
                · first | (simp [g, f, e, a, b, i, j, k, o, q, u] <;> omega) | (have hq := u; simp at hq; simp [g, f, e, a, b, i, j, k, o, q, u, hq]; done) | skip
                refine regv_pure (s1 := ?_) rfl ?_ ?_ ?_ ?_
                rotate_left
                · simp [g, f, e, a, b, i, j, k, o, q, u]; done
                · simp [g, f, e, a, b, i, j, k, o, q, u]; rfl
                · first | (simp [g, f, e, a, b, i, j, k, o, q, u] <;> omega) | (have hq := u; simp at hq; simp [g, f, e, a, b, i, j, k, o, q, u, hq]; done) | skip
                refine regv_pure (s1 := ?_) rfl ?_ ?_ ?_ ?_
                rotate_left
                · simp [g, f, e, a, b, i, j, k, o, q, u]; done
                · simp [g, f, e, a, b, i, j, k, o, q, u]; rfl
                · first | (simp [g, f, e, a, b, i, j, k, o, q, u] <;> omega) | (have hq := u; simp at hq; simp [g, f, e, a, b, i, j, k, o, q, u, hq]; done) | skip
                refine regv_pure (s1 := ?_) rfl ?_ ?_ ?_ ?_
                rotate_left
                · simp [g, f, e, a, b, i, j, k, o, q, u]; done
                · simp [g, f, e, a, b, i, j, k, o, q, u]; rfl
                · first | (simp [g, f, e, a, b, i, j, k, o, q, u] <;> omega) | (have hq := u; simp at hq; simp [g, f, e, a, b, i, j, k, o, q, u, hq]; done) | skip
                refine regv_pure (s1 := ?_) rfl ?_ ?_ ?_ ?_
                rotate_left
                · simp [g, f, e, a, b, i, j, k, o, q, u]; done
                · simp [g, f, e, a, b, i, j, k, o, q, u]; rfl
                · first | (simp [g, f, e, a, b, i, j, k, o, q, u] <;> omega) | (have hq := u; simp at hq; simp [g, f, e, a, b, i, j, k, o, q, u, hq]; done) | skip
                refine regv_pure (s1 := ?_) rfl ?_ ?_ ?_ ?_
                rotate_left
                · simp [g, f, e, a, b, i, j, k, o, q, u]; done
                · simp [g, f, e, a, b, i, j, k, o, q, u]; rfl
                · first | (simp [g, f, e, a, b, i, j, k, o, q, u] <;> omega) | (have hq := u; simp at hq; simp [g, f, e, a, b, i, j, k, o, q, u, hq]; done) | skip
                refine regv_pure (s1 := ?_) rfl ?_ ?_ ?_ ?_
                rotate_left
                · simp [g, f, e, a, b, i, j, k, o, q, u]; done
                · simp [g, f, e, a, b, i, j, k, o, q, u]; rfl
                · first | (simp [g, f, e, a, b, i, j, k, o, q, u] <;> omega) | (have hq := u; simp at hq; simp [g, f, e, a, b, i, j, k, o, q, u, hq]; done) | skip
                iterate 1
                  refine regv_pure (s1 := ?_) rfl rfl ?_ ?_ ?_
                  rotate_left
                  · simp [g, f, e, a, b, i, j, k, o, q, u]; rfl
                  · first | (simp [g, f, e, a, b, i, j, k, o, q, u] <;> omega) | (have hq := u; simp at hq; simp [g, f, e, a, b, i, j, k, o, q, u, hq]; done) | skip
                refine regv_nil ?_
                refine (Decidable.em (aq ≥ (IntKind.i64.wrap ((a2.E.length : Int) - a3)))).symm.elim (fun aa => ?_) (fun aa => ?_)
                · rw [if_neg (by simpa using aa)] at h
                  refine Wp.cond false (by first | (simp [g, f, e, a, b, i, j, k, o, q, u, aa] <;> omega) | (have hq := aa; simp at hq; simp [g, f, e, a, b, i, j, k, o, q, u, aa, hq]; done)) (fun h0 => absurd h0 (by decide)) (fun _ => ?_)
                  refine Wp.skip ?_
                  show Wp _ _ _ _
                  refine Wp.reg_seq (own := fun _ => false) tt_ok ?_
                  iterate 5
                    refine regv_pure (s1 := ?_) rfl rfl ?_ ?_ ?_
                    rotate_left
                    · simp [g, f, e, a, b, i, j, k, o, q, u, aa]; rfl
                    · first | (simp [g, f, e, a, b, i, j, k, o, q, u, aa] <;> omega) | (have hq := aa; simp at hq; simp [g, f, e, a, b, i, j, k, o, q, u, aa, hq]; done) | skip
                  obtain ⟨bk, be, h⟩ := obind h
                  obtain ⟨z, y, v⟩ := atI_some be
                  try simp [g, f, e, a, b, i, j, k, o, q, u, aa] at y
                  try simp only [Int.toNat_natCast, Int.reduceToNat, Nat.zero_add, Nat.add_zero] at v
                  have w := getElem_of v
                  iterate 3
                    refine regv_pure (s1 := ?_) rfl rfl ?_ ?_ ?_
                    rotate_left
                    · simp [g, f, e, a, b, i, j, k, o, q, u, aa, z, y, v, w]; rfl
                    · first | (simp [g, f, e, a, b, i, j, k, o, q, u, aa, z, y, v, w] <;> omega) | (have hq := w; simp at hq; simp [g, f, e, a, b, i, j, k, o, q, u, aa, z, y, v, w, hq]; done) | skip
                  refine regv_nil ?_
                  refine Wp.reg_seq (own := fun d => Nat.beq d 103) tt_ok ?_
                  iterate 5
                    refine regv_pure (s1 := ?_) rfl rfl ?_ ?_ ?_
                    rotate_left
                    · simp [g, f, e, a, b, i, j, k, o, q, u, aa, z, y, v, w]; rfl
                    · first | (simp [g, f, e, a, b, i, j, k, o, q, u, aa, z, y, v, w] <;> omega) | (have hq := w; simp at hq; simp [g, f, e, a, b, i, j, k, o, q, u, aa, z, y, v, w, hq]; done) | skip
                  cases ab : (!(bi == bk))
                  · rw [ab, if_neg (by simp)] at h
                    refine regv_skip (s1 := ?_) ?_ ?_ ?_
                    rotate_left
                    · simp [g, f, e, a, b, i, j, k, o, q, u, aa, z, y, v, w, ab]; done
                    · simp [g, f, e, a, b, i, j, k, o, q, u, aa, z, y, v, w, ab]; rfl
                    refine regv_skip (s1 := ?_) ?_ ?_ ?_
                    rotate_left
                    · simp [g, f, e, a, b, i, j, k, o, q, u, aa, z, y, v, w, ab]; done
                    · simp [g, f, e, a, b, i, j, k, o, q, u, aa, z, y, v, w, ab]; rfl
                    refine regv_skip (s1 := ?_) ?_ ?_ ?_
                    rotate_left
                    · simp [g, f, e, a, b, i, j, k, o, q, u, aa, z, y, v, w, ab]; done
                    · simp [g, f, e, a, b, i, j, k, o, q, u, aa, z, y, v, w, ab]; rfl
                    refine regv_skip (s1 := ?_) ?_ ?_ ?_
                    rotate_left
                    · simp [g, f, e, a, b, i, j, k, o, q, u, aa, z, y, v, w, ab]; done
                    · simp [g, f, e, a, b, i, j, k, o, q, u, aa, z, y, v, w, ab]; rfl
                    refine regv_skip (s1 := ?_) ?_ ?_ ?_
                    rotate_left
                    · simp [g, f, e, a, b, i, j, k, o, q, u, aa, z, y, v, w, ab]; done
                    · simp [g, f, e, a, b, i, j, k, o, q, u, aa, z, y, v, w, ab]; rfl
                    iterate 2
                      refine regv_pure (s1 := ?_) rfl rfl ?_ ?_ ?_
                      rotate_left
                      · simp [g, f, e, a, b, i, j, k, o, q, u, aa, z, y, v, w, ab]; rfl
                      · first | (simp [g, f, e, a, b, i, j, k, o, q, u, aa, z, y, v, w, ab] <;> omega) | (have hq := ab; simp at hq; simp [g, f, e, a, b, i, j, k, o, q, u, aa, z, y, v, w, ab, hq]; done) | skip
                    obtain ⟨ag, h⟩ := oguard h
                    iterate 1
                      refine regv_pure (s1 := ?_) rfl rfl ?_ ?_ ?_
                      rotate_left
                      · simp [g, f, e, a, b, i, j, k, o, q, u, aa, z, y, v, w, ab, ag]; rfl
                      · first | (simp [g, f, e, a, b, i, j, k, o, q, u, aa, z, y, v, w, ab, ag] <;> omega) | (have hq := ag; simp at hq; simp [g, f, e, a, b, i, j, k, o, q, u, aa, z, y, v, w, ab, ag, hq]; done) | skip
                    obtain ⟨bm, av, h⟩ := obind h
                    have ae := congrArg (List.map cB) (Option.some.inj av)
                    have ac := (congrArg List.length (Option.some.inj av)).symm
                    try simp [g, f, e, a, b, i, j, k, o, q, u, aa, z, y, v, w, ab, ag] at ae
                    try simp [g, f, e, a, b, i, j, k, o, q, u, aa, z, y, v, w, ab, ag] at ac
                    clear av
                    try simp only [ae]
                    iterate 1
                      refine regv_pure (s1 := ?_) rfl rfl ?_ ?_ ?_
                      rotate_left
                      · simp [g, f, e, a, b, i, j, k, o, q, u, aa, z, y, v, w, ab, ag, ae, ac]; rfl
                      · first | (simp [g, f, e, a, b, i, j, k, o, q, u, aa, z, y, v, w, ab, ag, ae, ac] <;> omega) | (have hq := ac; simp at hq; simp [g, f, e, a, b, i, j, k, o, q, u, aa, z, y, v, w, ab, ag, ae, ac, hq]; done) | skip
                    refine regv_nil ?_
                    refine Wp.reg_seq (own := fun _ => false) tt_ok ?_
                    iterate 6
                      refine regv_pure (s1 := ?_) rfl rfl ?_ ?_ ?_
                      rotate_left
                      · simp [g, f, e, a, b, i, j, k, o, q, u, aa, z, y, v, w, ab, ag, ae, ac]; rfl
                      · first | (simp [g, f, e, a, b, i, j, k, o, q, u, aa, z, y, v, w, ab, ag, ae, ac] <;> omega) | (have hq := ac; simp at hq; simp [g, f, e, a, b, i, j, k, o, q, u, aa, z, y, v, w, ab, ag, ae, ac, hq]; done) | skip
                    obtain ⟨bo, bf, h⟩ := obind h
                    refine regv_call2 (s' := ?_) (p := ?_) (con_ref02_Set bf) rfl rfl rfl rfl ?_ ?_ ?_ ?_ ?_ ?_
                    rotate_left 2
                    · simp [g, f, e, a, b, i, j, k, o, q, u, aa, z, y, v, w, ab, ag, ae, ac]; rfl
                    · first | exact .inl rfl | (refine .inl ?_; simp [g, f, e, a, b, i, j, k, o, q, u, aa, z, y, v, w, ab, ag, ae, ac]; done) | (refine .inr ?_; dsimp only; repeat' first | exact All2.nil | refine All2.cons ?_ ?_) <;> first | exact AvLe.refl _ rfl | exact AvLe.nil _ | exact AvLe.znil _ | exact AvLe.list' (by simp [g, f, e, a, b, i, j, k, o, q, u, aa, z, y, v, w, ab, ag, ae, ac]; done) (by simp [g, f, e, a, b, i, j, k, o, q, u, aa, z, y, v, w, ab, ag, ae, ac]; done) | exact AvLe.eq (by simp [g, f, e, a, b, i, j, k, o, q, u, aa, z, y, v, w, ab, ag, ae, ac]; done) rfl
                    · first | (simp [g, f, e, a, b, i, j, k, o, q, u, aa, z, y, v, w, ab, ag, ae, ac] <;> omega) | (have hq := ac; simp at hq; simp [g, f, e, a, b, i, j, k, o, q, u, aa, z, y, v, w, ab, ag, ae, ac, hq]; done) | skip
                    · simp
                    · simp [g, f, e, a, b, i, j, k, o, q, u, aa, z, y, v, w, ab, ag, ae, ac]; rfl
                    iterate 2
                      refine regv_pure (s1 := ?_) rfl rfl ?_ ?_ ?_
                      rotate_left
                      · simp [g, f, e, a, b, i, j, k, o, q, u, aa, z, y, v, w, ab, ag, ae, ac]; rfl
                      · first | (simp [g, f, e, a, b, i, j, k, o, q, u, aa, z, y, v, w, ab, ag, ae, ac] <;> omega) | (have hq := ac; simp at hq; simp [g, f, e, a, b, i, j, k, o, q, u, aa, z, y, v, w, ab, ag, ae, ac, hq]; done) | skip
                    refine regv_nil ?_
                    refine Wp.reg (own := fun _ => false) tt_ok ?_
                    iterate 3
                      refine regv_pure (s1 := ?_) rfl rfl ?_ ?_ ?_
                      rotate_left
                      · simp [g, f, e, a, b, i, j, k, o, q, u, aa, z, y, v, w, ab, ag, ae, ac]; rfl
                      · first | (simp [g, f, e, a, b, i, j, k, o, q, u, aa, z, y, v, w, ab, ag, ae, ac] <;> omega) | (have hq := ac; simp at hq; simp [g, f, e, a, b, i, j, k, o, q, u, aa, z, y, v, w, ab, ag, ae, ac, hq]; done) | skip
                    refine regv_nil ?_
                    show Wp _ _ _ _
                    refine Wp.reg (own := fun _ => false) tt_ok ?_
                    iterate 3
                      refine regv_pure (s1 := ?_) rfl rfl ?_ ?_ ?_
                      rotate_left
                      · simp [g, f, e, a, b, i, j, k, o, q, u, aa, z, y, v, w, ab, ag, ae, ac]; rfl
                      · first | (simp [g, f, e, a, b, i, j, k, o, q, u, aa, z, y, v, w, ab, ag, ae, ac] <;> omega) | (have hq := ac; simp at hq; simp [g, f, e, a, b, i, j, k, o, q, u, aa, z, y, v, w, ab, ag, ae, ac, hq]; done) | skip
                    refine regv_nil ?_
                    refine next_mk (bm, (IntKind.i64.wrap (ap + 1)), bo, (IntKind.i64.wrap (aq + 1))) h ?_
                    refine Reloc.mk2 [some 0, some 1, some 2, some 3, some 6] rfl rfl rfl (by decide) ?_ ?_
                    · repeat' first | exact objsLe_nil | refine objsLe_cons ?_ ?_
                      all_goals first
                        | exact trivial
                        | (refine ObjLe.var' rfl rfl ?_ rfl
                           repeat' first | exact All2.nil | refine All2.cons ?_ ?_
                           all_goals first | (exact AvLe.refl _ rfl) | (exact AvLe.sl _ _ _ _ rfl) | (exact AvLe.hptr _ _ _ _ rfl) | (exact AvLe.mp _ _ rfl) | (exact AvLe.nil _) | (exact AvLe.znil _) | (exact AvLe.ghost _ rfl) | (exact AvLe.zghost _ rfl) | (exact AvLe.sl' rfl (by simp [g, f, e, a, b, i, j, k, o, q, u, aa, z, y, v, w, ab, ag, ae, ac]; done) (by first | (simp [g, f, e, a, b, i, j, k, o, q, u, aa, z, y, v, w, ab, ag, ae, ac] <;> omega) | omega)) | (exact AvLe.frz2 rfl (by simp) rfl (by simp [g, f, e, a, b, i, j, k, o, q, u, aa, z, y, v, w, ab, ag, ae, ac]; done) (by simp [g, f, e, a, b, i, j, k, o, q, u, aa, z, y, v, w, ab, ag, ae, ac]; done) (by simp [g, f, e, a, b, i, j, k, o, q, u, aa, z, y, v, w, ab, ag, ae, ac]; done)) | (exact AvLe.list' (by simp [g, f, e, a, b, i, j, k, o, q, u, aa, z, y, v, w, ab, ag, ae, ac]; done) (by simp [g, f, e, a, b, i, j, k, o, q, u, aa, z, y, v, w, ab, ag, ae, ac]; done)) | (exact AvLe.eq (by simp [g, f, e, a, b, i, j, k, o, q, u, aa, z, y, v, w, ab, ag, ae, ac]; done) rfl))
                        | (exact ObjLe.map' rfl rfl)
                        | (exact ObjLe.ghost' rfl (by decide))
                        | (exact ObjLe.arr' rfl rfl (by first | (simp [g, f, e, a, b, i, j, k, o, q, u, aa, z, y, v, w, ab, ag, ae, ac] <;> omega)) (fun _ _ => by first | rfl | (simp [g, f, e, a, b, i, j, k, o, q, u, aa, z, y, v, w, ab, ag, ae, ac]; done)))
                        | ((simp [g, f, e, a, b, i, j, k, o, q, u, aa, z, y, v, w, ab, ag, ae, ac]; done))
                    · repeat' first | exact chLe_nil | refine chLe_cons ?_ ?_
                      all_goals first
                        | (exact AvLe.refl _ rfl)
                        | (exact AvLe.sl _ _ _ _ rfl)
                        | (exact AvLe.hptr _ _ _ _ rfl)
                        | (exact AvLe.mp _ _ rfl)
                        | (exact AvLe.nil _)
                        | (exact AvLe.znil _)
                        | (exact AvLe.ghost _ rfl)
                        | (exact AvLe.zghost _ rfl)
                        | (exact AvLe.sl' rfl (by simp [g, f, e, a, b, i, j, k, o, q, u, aa, z, y, v, w, ab, ag, ae, ac]; done) (by first | (simp [g, f, e, a, b, i, j, k, o, q, u, aa, z, y, v, w, ab, ag, ae, ac] <;> omega) | omega))
                        | (exact AvLe.frz2 rfl (by simp) rfl (by simp [g, f, e, a, b, i, j, k, o, q, u, aa, z, y, v, w, ab, ag, ae, ac]; done) (by simp [g, f, e, a, b, i, j, k, o, q, u, aa, z, y, v, w, ab, ag, ae, ac]; done) (by simp [g, f, e, a, b, i, j, k, o, q, u, aa, z, y, v, w, ab, ag, ae, ac]; done))
                        | (exact AvLe.list' (by simp [g, f, e, a, b, i, j, k, o, q, u, aa, z, y, v, w, ab, ag, ae, ac]; done) (by simp [g, f, e, a, b, i, j, k, o, q, u, aa, z, y, v, w, ab, ag, ae, ac]; done))
                        | (exact AvLe.eq (by simp [g, f, e, a, b, i, j, k, o, q, u, aa, z, y, v, w, ab, ag, ae, ac]; done) rfl)
                  · rw [ab, if_pos rfl] at h
                    refine regv_pure (s1 := ?_) rfl ?_ ?_ ?_ ?_
                    rotate_left
                    · simp [g, f, e, a, b, i, j, k, o, q, u, aa, z, y, v, w, ab]; done
                    · simp [g, f, e, a, b, i, j, k, o, q, u, aa, z, y, v, w, ab]; rfl
                    · first | (simp [g, f, e, a, b, i, j, k, o, q, u, aa, z, y, v, w, ab] <;> omega) | (have hq := ab; simp at hq; simp [g, f, e, a, b, i, j, k, o, q, u, aa, z, y, v, w, ab, hq]; done) | skip
                    refine regv_pure (s1 := ?_) rfl ?_ ?_ ?_ ?_
                    rotate_left
                    · simp [g, f, e, a, b, i, j, k, o, q, u, aa, z, y, v, w, ab]; done
                    · simp [g, f, e, a, b, i, j, k, o, q, u, aa, z, y, v, w, ab]; rfl
                    · first | (simp [g, f, e, a, b, i, j, k, o, q, u, aa, z, y, v, w, ab] <;> omega) | (have hq := ab; simp at hq; simp [g, f, e, a, b, i, j, k, o, q, u, aa, z, y, v, w, ab, hq]; done) | skip
                    refine regv_pure (s1 := ?_) rfl ?_ ?_ ?_ ?_
                    rotate_left
                    · simp [g, f, e, a, b, i, j, k, o, q, u, aa, z, y, v, w, ab]; done
                    · simp [g, f, e, a, b, i, j, k, o, q, u, aa, z, y, v, w, ab]; rfl
                    · first | (simp [g, f, e, a, b, i, j, k, o, q, u, aa, z, y, v, w, ab] <;> omega) | (have hq := ab; simp at hq; simp [g, f, e, a, b, i, j, k, o, q, u, aa, z, y, v, w, ab, hq]; done) | skip
                    refine regv_pure (s1 := ?_) rfl ?_ ?_ ?_ ?_
                    rotate_left
                    · simp [g, f, e, a, b, i, j, k, o, q, u, aa, z, y, v, w, ab]; done
                    · simp [g, f, e, a, b, i, j, k, o, q, u, aa, z, y, v, w, ab]; rfl
                    · first | (simp [g, f, e, a, b, i, j, k, o, q, u, aa, z, y, v, w, ab] <;> omega) | (have hq := ab; simp at hq; simp [g, f, e, a, b, i, j, k, o, q, u, aa, z, y, v, w, ab, hq]; done) | skip
                    refine regv_pure (s1 := ?_) rfl ?_ ?_ ?_ ?_
                    rotate_left
                    · simp [g, f, e, a, b, i, j, k, o, q, u, aa, z, y, v, w, ab]; done
                    · simp [g, f, e, a, b, i, j, k, o, q, u, aa, z, y, v, w, ab]; rfl
                    · first | (simp [g, f, e, a, b, i, j, k, o, q, u, aa, z, y, v, w, ab] <;> omega) | (have hq := ab; simp at hq; simp [g, f, e, a, b, i, j, k, o, q, u, aa, z, y, v, w, ab, hq]; done) | skip
                    iterate 2
                      refine regv_pure (s1 := ?_) rfl rfl ?_ ?_ ?_
                      rotate_left
                      · simp [g, f, e, a, b, i, j, k, o, q, u, aa, z, y, v, w, ab]; rfl
                      · first | (simp [g, f, e, a, b, i, j, k, o, q, u, aa, z, y, v, w, ab] <;> omega) | (have hq := ab; simp at hq; simp [g, f, e, a, b, i, j, k, o, q, u, aa, z, y, v, w, ab, hq]; done) | skip
                    obtain ⟨ai, h⟩ := oguard h
                    iterate 1
                      refine regv_pure (s1 := ?_) rfl rfl ?_ ?_ ?_
                      rotate_left
                      · simp [g, f, e, a, b, i, j, k, o, q, u, aa, z, y, v, w, ab, ai]; rfl
                      · first | (simp [g, f, e, a, b, i, j, k, o, q, u, aa, z, y, v, w, ab, ai] <;> omega) | (have hq := ai; simp at hq; simp [g, f, e, a, b, i, j, k, o, q, u, aa, z, y, v, w, ab, ai, hq]; done) | skip
                    obtain ⟨bp, aw, h⟩ := obind h
                    have af := congrArg (List.map cB) (Option.some.inj aw)
                    have ad := (congrArg List.length (Option.some.inj aw)).symm
                    try simp [g, f, e, a, b, i, j, k, o, q, u, aa, z, y, v, w, ab, ai] at af
                    try simp [g, f, e, a, b, i, j, k, o, q, u, aa, z, y, v, w, ab, ai] at ad
                    clear aw
                    try simp only [af]
                    iterate 1
                      refine regv_pure (s1 := ?_) rfl rfl ?_ ?_ ?_
                      rotate_left
                      · simp [g, f, e, a, b, i, j, k, o, q, u, aa, z, y, v, w, ab, ai, af, ad]; rfl
                      · first | (simp [g, f, e, a, b, i, j, k, o, q, u, aa, z, y, v, w, ab, ai, af, ad] <;> omega) | (have hq := ad; simp at hq; simp [g, f, e, a, b, i, j, k, o, q, u, aa, z, y, v, w, ab, ai, af, ad, hq]; done) | skip
                    refine regv_nil ?_
                    refine Wp.reg_seq (own := fun _ => false) tt_ok ?_
                    iterate 6
                      refine regv_pure (s1 := ?_) rfl rfl ?_ ?_ ?_
                      rotate_left
                      · simp [g, f, e, a, b, i, j, k, o, q, u, aa, z, y, v, w, ab, ai, af, ad]; rfl
                      · first | (simp [g, f, e, a, b, i, j, k, o, q, u, aa, z, y, v, w, ab, ai, af, ad] <;> omega) | (have hq := ad; simp at hq; simp [g, f, e, a, b, i, j, k, o, q, u, aa, z, y, v, w, ab, ai, af, ad, hq]; done) | skip
                    obtain ⟨bq, bg, h⟩ := obind h
                    refine regv_call2 (s' := ?_) (p := ?_) (con_ref02_Set bg) rfl rfl rfl rfl ?_ ?_ ?_ ?_ ?_ ?_
                    rotate_left 2
                    · simp [g, f, e, a, b, i, j, k, o, q, u, aa, z, y, v, w, ab, ai, af, ad]; rfl
                    · first | exact .inl rfl | (refine .inl ?_; simp [g, f, e, a, b, i, j, k, o, q, u, aa, z, y, v, w, ab, ai, af, ad]; done) | (refine .inr ?_; dsimp only; repeat' first | exact All2.nil | refine All2.cons ?_ ?_) <;> first | exact AvLe.refl _ rfl | exact AvLe.nil _ | exact AvLe.znil _ | exact AvLe.list' (by simp [g, f, e, a, b, i, j, k, o, q, u, aa, z, y, v, w, ab, ai, af, ad]; done) (by simp [g, f, e, a, b, i, j, k, o, q, u, aa, z, y, v, w, ab, ai, af, ad]; done) | exact AvLe.eq (by simp [g, f, e, a, b, i, j, k, o, q, u, aa, z, y, v, w, ab, ai, af, ad]; done) rfl
                    · first | (simp [g, f, e, a, b, i, j, k, o, q, u, aa, z, y, v, w, ab, ai, af, ad] <;> omega) | (have hq := ad; simp at hq; simp [g, f, e, a, b, i, j, k, o, q, u, aa, z, y, v, w, ab, ai, af, ad, hq]; done) | skip
                    · simp
                    · simp [g, f, e, a, b, i, j, k, o, q, u, aa, z, y, v, w, ab, ai, af, ad]; rfl
                    iterate 2
                      refine regv_pure (s1 := ?_) rfl rfl ?_ ?_ ?_
                      rotate_left
                      · simp [g, f, e, a, b, i, j, k, o, q, u, aa, z, y, v, w, ab, ai, af, ad]; rfl
                      · first | (simp [g, f, e, a, b, i, j, k, o, q, u, aa, z, y, v, w, ab, ai, af, ad] <;> omega) | (have hq := ad; simp at hq; simp [g, f, e, a, b, i, j, k, o, q, u, aa, z, y, v, w, ab, ai, af, ad, hq]; done) | skip
                    refine regv_nil ?_
                    refine Wp.reg (own := fun _ => false) tt_ok ?_
                    iterate 3
                      refine regv_pure (s1 := ?_) rfl rfl ?_ ?_ ?_
                      rotate_left
                      · simp [g, f, e, a, b, i, j, k, o, q, u, aa, z, y, v, w, ab, ai, af, ad]; rfl
                      · first | (simp [g, f, e, a, b, i, j, k, o, q, u, aa, z, y, v, w, ab, ai, af, ad] <;> omega) | (have hq := ad; simp at hq; simp [g, f, e, a, b, i, j, k, o, q, u, aa, z, y, v, w, ab, ai, af, ad, hq]; done) | skip
                    refine regv_nil ?_
                    show Wp _ _ _ _
                    refine Wp.reg (own := fun _ => false) tt_ok ?_
                    iterate 3
                      refine regv_pure (s1 := ?_) rfl rfl ?_ ?_ ?_
                      rotate_left
                      · simp [g, f, e, a, b, i, j, k, o, q, u, aa, z, y, v, w, ab, ai, af, ad]; rfl
                      · first | (simp [g, f, e, a, b, i, j, k, o, q, u, aa, z, y, v, w, ab, ai, af, ad] <;> omega) | (have hq := ad; simp at hq; simp [g, f, e, a, b, i, j, k, o, q, u, aa, z, y, v, w, ab, ai, af, ad, hq]; done) | skip
                    refine regv_nil ?_
                    refine next_mk (bp, (IntKind.i64.wrap (ap + 1)), bq, (IntKind.i64.wrap (aq + 1))) h ?_
                    refine Reloc.mk2 [some 0, some 1, some 2, some 3, some 6] rfl rfl rfl (by decide) ?_ ?_
                    · repeat' first | exact objsLe_nil | refine objsLe_cons ?_ ?_
                      all_goals first
                        | exact trivial
                        | (refine ObjLe.var' rfl rfl ?_ rfl
                           repeat' first | exact All2.nil | refine All2.cons ?_ ?_
                           all_goals first | (exact AvLe.refl _ rfl) | (exact AvLe.sl _ _ _ _ rfl) | (exact AvLe.hptr _ _ _ _ rfl) | (exact AvLe.mp _ _ rfl) | (exact AvLe.nil _) | (exact AvLe.znil _) | (exact AvLe.ghost _ rfl) | (exact AvLe.zghost _ rfl) | (exact AvLe.sl' rfl (by simp [g, f, e, a, b, i, j, k, o, q, u, aa, z, y, v, w, ab, ai, af, ad]; done) (by first | (simp [g, f, e, a, b, i, j, k, o, q, u, aa, z, y, v, w, ab, ai, af, ad] <;> omega) | omega)) | (exact AvLe.frz2 rfl (by simp) rfl (by simp [g, f, e, a, b, i, j, k, o, q, u, aa, z, y, v, w, ab, ai, af, ad]; done) (by simp [g, f, e, a, b, i, j, k, o, q, u, aa, z, y, v, w, ab, ai, af, ad]; done) (by simp [g, f, e, a, b, i, j, k, o, q, u, aa, z, y, v, w, ab, ai, af, ad]; done)) | (exact AvLe.list' (by simp [g, f, e, a, b, i, j, k, o, q, u, aa, z, y, v, w, ab, ai, af, ad]; done) (by simp [g, f, e, a, b, i, j, k, o, q, u, aa, z, y, v, w, ab, ai, af, ad]; done)) | (exact AvLe.eq (by simp [g, f, e, a, b, i, j, k, o, q, u, aa, z, y, v, w, ab, ai, af, ad]; done) rfl))
                        | (exact ObjLe.map' rfl rfl)
                        | (exact ObjLe.ghost' rfl (by decide))
                        | (exact ObjLe.arr' rfl rfl (by first | (simp [g, f, e, a, b, i, j, k, o, q, u, aa, z, y, v, w, ab, ai, af, ad] <;> omega)) (fun _ _ => by first | rfl | (simp [g, f, e, a, b, i, j, k, o, q, u, aa, z, y, v, w, ab, ai, af, ad]; done)))
                        | ((simp [g, f, e, a, b, i, j, k, o, q, u, aa, z, y, v, w, ab, ai, af, ad]; done))
                    · repeat' first | exact chLe_nil | refine chLe_cons ?_ ?_
                      all_goals first
                        | (exact AvLe.refl _ rfl)
                        | (exact AvLe.sl _ _ _ _ rfl)
                        | (exact AvLe.hptr _ _ _ _ rfl)
                        | (exact AvLe.mp _ _ rfl)
                        | (exact AvLe.nil _)
                        | (exact AvLe.znil _)
                        | (exact AvLe.ghost _ rfl)
                        | (exact AvLe.zghost _ rfl)
                        | (exact AvLe.sl' rfl (by simp [g, f, e, a, b, i, j, k, o, q, u, aa, z, y, v, w, ab, ai, af, ad]; done) (by first | (simp [g, f, e, a, b, i, j, k, o, q, u, aa, z, y, v, w, ab, ai, af, ad] <;> omega) | omega))
                        | (exact AvLe.frz2 rfl (by simp) rfl (by simp [g, f, e, a, b, i, j, k, o, q, u, aa, z, y, v, w, ab, ai, af, ad]; done) (by simp [g, f, e, a, b, i, j, k, o, q, u, aa, z, y, v, w, ab, ai, af, ad]; done) (by simp [g, f, e, a, b, i, j, k, o, q, u, aa, z, y, v, w, ab, ai, af, ad]; done))
                        | (exact AvLe.list' (by simp [g, f, e, a, b, i, j, k, o, q, u, aa, z, y, v, w, ab, ai, af, ad]; done) (by simp [g, f, e, a, b, i, j, k, o, q, u, aa, z, y, v, w, ab, ai, af, ad]; done))
                        | (exact AvLe.eq (by simp [g, f, e, a, b, i, j, k, o, q, u, aa, z, y, v, w, ab, ai, af, ad]; done) rfl)
                · rw [if_pos (decide_eq_true aa)] at h
                  refine Wp.cond true (by first | (simp [g, f, e, a, b, i, j, k, o, q, u, aa] <;> omega) | (have hq := aa; simp at hq; simp [g, f, e, a, b, i, j, k, o, q, u, aa, hq]; done)) (fun _ => ?_) (fun h0 => absurd h0 (by decide))
                  refine Wp.reg_seq (own := fun _ => false) tt_ok ?_
                  iterate 4
                    refine regv_pure (s1 := ?_) rfl rfl ?_ ?_ ?_
                    rotate_left
                    · simp [g, f, e, a, b, i, j, k, o, q, u, aa]; rfl
                    · first | (simp [g, f, e, a, b, i, j, k, o, q, u, aa] <;> omega) | (have hq := aa; simp at hq; simp [g, f, e, a, b, i, j, k, o, q, u, aa, hq]; done) | skip
                  refine regv_nil ?_
                  cases h
                  refine Wp.ret (endQ_ret0 rfl ?_)
                  repeat' first | exact All2.nil | refine All2.cons ?_ ?_ | refine AvLe.tups ?_ | refine AvLe.aggs ?_
                  all_goals first
                    | (exact AvLe.refl _ rfl)
                    | (exact AvLe.nil _)
                    | (exact AvLe.znil _)
                    | (exact AvLe.ghost _ rfl)
                    | (exact AvLe.zghost _ rfl)
                    | (exact AvLe.sl' rfl (by simp [g, f, e, a, b, i, j, k, o, q, u, aa]; done) (by simp [g, f, e, a, b, i, j, k, o, q, u, aa]; done))
                    | (exact AvLe.frz' rfl rfl rfl (by simp [g, f, e, a, b, i, j, k, o, q, u, aa]; done) (by simp [g, f, e, a, b, i, j, k, o, q, u, aa]; done) (by simp [g, f, e, a, b, i, j, k, o, q, u, aa]; done))
                    | (exact AvLe.list' (by simp [g, f, e, a, b, i, j, k, o, q, u, aa]; done) (by simp [g, f, e, a, b, i, j, k, o, q, u, aa]; done))
                    | (exact AvLe.eq (by simp [g, f, e, a, b, i, j, k, o, q, u, aa]; done) rfl)
              · rw [if_pos (decide_eq_true u)] at h
                refine regv_skip (s1 := ?_) ?_ ?_ ?_
                rotate_left
                · simp [g, f, e, a, b, i, j, k, o, q, u]; done
                · simp [g, f, e, a, b, i, j, k, o, q, u]; rfl
                refine regv_skip (s1 := ?_) ?_ ?_ ?_
                rotate_left
                · simp [g, f, e, a, b, i, j, k, o, q, u]; done
                · simp [g, f, e, a, b, i, j, k, o, q, u]; rfl
                refine regv_skip (s1 := ?_) ?_ ?_ ?_
                rotate_left
                · simp [g, f, e, a, b, i, j, k, o, q, u]; done
                · simp [g, f, e, a, b, i, j, k, o, q, u]; rfl
                refine regv_skip (s1 := ?_) ?_ ?_ ?_
                rotate_left
                · simp [g, f, e, a, b, i, j, k, o, q, u]; done
                · simp [g, f, e, a, b, i, j, k, o, q, u]; rfl
                refine regv_skip (s1 := ?_) ?_ ?_ ?_
                rotate_left
                · simp [g, f, e, a, b, i, j, k, o, q, u]; done
                · simp [g, f, e, a, b, i, j, k, o, q, u]; rfl
                refine regv_skip (s1 := ?_) ?_ ?_ ?_
                rotate_left
                · simp [g, f, e, a, b, i, j, k, o, q, u]; done
                · simp [g, f, e, a, b, i, j, k, o, q, u]; rfl
                refine regv_skip (s1 := ?_) ?_ ?_ ?_
                rotate_left
                · simp [g, f, e, a, b, i, j, k, o, q, u]; done
                · simp [g, f, e, a, b, i, j, k, o, q, u]; rfl
                iterate 1
                  refine regv_pure (s1 := ?_) rfl rfl ?_ ?_ ?_
                  rotate_left
                  · simp [g, f, e, a, b, i, j, k, o, q, u]; rfl
                  · first | (simp [g, f, e, a, b, i, j, k, o, q, u] <;> omega) | (have hq := u; simp at hq; simp [g, f, e, a, b, i, j, k, o, q, u, hq]; done) | skip
                refine regv_nil ?_
                refine Wp.cond true (by first | (simp [g, f, e, a, b, i, j, k, o, q, u] <;> omega) | (have hq := u; simp at hq; simp [g, f, e, a, b, i, j, k, o, q, u, hq]; done)) (fun _ => ?_) (fun h0 => absurd h0 (by decide))
                refine Wp.reg_seq (own := fun _ => false) tt_ok ?_
                iterate 4
                  refine regv_pure (s1 := ?_) rfl rfl ?_ ?_ ?_
                  rotate_left
                  · simp [g, f, e, a, b, i, j, k, o, q, u]; rfl
                  · first | (simp [g, f, e, a, b, i, j, k, o, q, u] <;> omega) | (have hq := u; simp at hq; simp [g, f, e, a, b, i, j, k, o, q, u, hq]; done) | skip
                refine regv_nil ?_
                cases h
                refine Wp.ret (endQ_ret0 rfl ?_)
                repeat' first | exact All2.nil | refine All2.cons ?_ ?_ | refine AvLe.tups ?_ | refine AvLe.aggs ?_
                all_goals first
                  | (exact AvLe.refl _ rfl)
                  | (exact AvLe.nil _)
                  | (exact AvLe.znil _)
                  | (exact AvLe.ghost _ rfl)
                  | (exact AvLe.zghost _ rfl)
                  | (exact AvLe.sl' rfl (by simp [g, f, e, a, b, i, j, k, o, q, u]; done) (by simp [g, f, e, a, b, i, j, k, o, q, u]; done))
                  | (exact AvLe.frz' rfl rfl rfl (by simp [g, f, e, a, b, i, j, k, o, q, u]; done) (by simp [g, f, e, a, b, i, j, k, o, q, u]; done) (by simp [g, f, e, a, b, i, j, k, o, q, u]; done))
                  | (exact AvLe.list' (by simp [g, f, e, a, b, i, j, k, o, q, u]; done) (by simp [g, f, e, a, b, i, j, k, o, q, u]; done))
                  | (exact AvLe.eq (by simp [g, f, e, a, b, i, j, k, o, q, u]; done) rfl)
            · rw [if_pos (decide_eq_true q)] at h
              refine regv_skip (s1 := ?_) ?_ ?_ ?_
              rotate_left
              · simp [g, f, e, a, b, i, j, k, o, q]; done
              · simp [g, f, e, a, b, i, j, k, o, q]; rfl
              refine regv_skip (s1 := ?_) ?_ ?_ ?_
              rotate_left
              · simp [g, f, e, a, b, i, j, k, o, q]; done
              · simp [g, f, e, a, b, i, j, k, o, q]; rfl
              refine regv_skip (s1 := ?_) ?_ ?_ ?_
              rotate_left
              · simp [g, f, e, a, b, i, j, k, o, q]; done
              · simp [g, f, e, a, b, i, j, k, o, q]; rfl
              refine regv_skip (s1 := ?_) ?_ ?_ ?_
              rotate_left
              · simp [g, f, e, a, b, i, j, k, o, q]; done
              · simp [g, f, e, a, b, i, j, k, o, q]; rfl
              refine regv_skip (s1 := ?_) ?_ ?_ ?_
              rotate_left
              · simp [g, f, e, a, b, i, j, k, o, q]; done
              · simp [g, f, e, a, b, i, j, k, o, q]; rfl
              iterate 2
                refine regv_pure (s1 := ?_) rfl rfl ?_ ?_ ?_
                rotate_left
                · simp [g, f, e, a, b, i, j, k, o, q]; rfl
                · first | (simp [g, f, e, a, b, i, j, k, o, q] <;> omega) | (have hq := q; simp at hq; simp [g, f, e, a, b, i, j, k, o, q, hq]; done) | skip
              refine regv_skip (s1 := ?_) ?_ ?_ ?_
              rotate_left
              · simp [g, f, e, a, b, i, j, k, o, q]; done
              · simp [g, f, e, a, b, i, j, k, o, q]; rfl
              refine regv_skip (s1 := ?_) ?_ ?_ ?_
              rotate_left
              · simp [g, f, e, a, b, i, j, k, o, q]; done
              · simp [g, f, e, a, b, i, j, k, o, q]; rfl
              refine regv_skip (s1 := ?_) ?_ ?_ ?_
              rotate_left
              · simp [g, f, e, a, b, i, j, k, o, q]; done
              · simp [g, f, e, a, b, i, j, k, o, q]; rfl
              refine regv_skip (s1 := ?_) ?_ ?_ ?_
              rotate_left
              · simp [g, f, e, a, b, i, j, k, o, q]; done
              · simp [g, f, e, a, b, i, j, k, o, q]; rfl
              refine regv_skip (s1 := ?_) ?_ ?_ ?_
              rotate_left
              · simp [g, f, e, a, b, i, j, k, o, q]; done
              · simp [g, f, e, a, b, i, j, k, o, q]; rfl
              refine regv_skip (s1 := ?_) ?_ ?_ ?_
              rotate_left
              · simp [g, f, e, a, b, i, j, k, o, q]; done
              · simp [g, f, e, a, b, i, j, k, o, q]; rfl
              refine regv_skip (s1 := ?_) ?_ ?_ ?_
              rotate_left
              · simp [g, f, e, a, b, i, j, k, o, q]; done
              · simp [g, f, e, a, b, i, j, k, o, q]; rfl
              iterate 1
                refine regv_pure (s1 := ?_) rfl rfl ?_ ?_ ?_
                rotate_left
                · simp [g, f, e, a, b, i, j, k, o, q]; rfl
                · first | (simp [g, f, e, a, b, i, j, k, o, q] <;> omega) | (have hq := q; simp at hq; simp [g, f, e, a, b, i, j, k, o, q, hq]; done) | skip
              refine regv_nil ?_
              refine Wp.cond true (by first | (simp [g, f, e, a, b, i, j, k, o, q] <;> omega) | (have hq := q; simp at hq; simp [g, f, e, a, b, i, j, k, o, q, hq]; done)) (fun _ => ?_) (fun h0 => absurd h0 (by decide))
              refine Wp.reg_seq (own := fun _ => false) tt_ok ?_
              iterate 4
                refine regv_pure (s1 := ?_) rfl rfl ?_ ?_ ?_
                rotate_left
                · simp [g, f, e, a, b, i, j, k, o, q]; rfl
                · first | (simp [g, f, e, a, b, i, j, k, o, q] <;> omega) | (have hq := q; simp at hq; simp [g, f, e, a, b, i, j, k, o, q, hq]; done) | skip
              refine regv_nil ?_
              cases h
              refine Wp.ret (endQ_ret0 rfl ?_)
              repeat' first | exact All2.nil | refine All2.cons ?_ ?_ | refine AvLe.tups ?_ | refine AvLe.aggs ?_
              all_goals first
                | (exact AvLe.refl _ rfl)
                | (exact AvLe.nil _)
                | (exact AvLe.znil _)
                | (exact AvLe.ghost _ rfl)
                | (exact AvLe.zghost _ rfl)
                | (exact AvLe.sl' rfl (by simp [g, f, e, a, b, i, j, k, o, q]; done) (by simp [g, f, e, a, b, i, j, k, o, q]; done))
                | (exact AvLe.frz' rfl rfl rfl (by simp [g, f, e, a, b, i, j, k, o, q]; done) (by simp [g, f, e, a, b, i, j, k, o, q]; done) (by simp [g, f, e, a, b, i, j, k, o, q]; done))
                | (exact AvLe.list' (by simp [g, f, e, a, b, i, j, k, o, q]; done) (by simp [g, f, e, a, b, i, j, k, o, q]; done))
                | (exact AvLe.eq (by simp [g, f, e, a, b, i, j, k, o, q]; done) rfl)
          · rw [if_pos (decide_eq_true o)] at h
            refine Wp.cond true (by first | (simp [g, f, e, a, b, i, j, k, o] <;> omega) | (have hq := o; simp at hq; simp [g, f, e, a, b, i, j, k, o, hq]; done)) (fun _ => ?_) (fun h0 => absurd h0 (by decide))
            refine Wp.reg_seq (own := fun d => Nat.beq d 64) tt_ok ?_
            iterate 7
              refine regv_pure (s1 := ?_) rfl rfl ?_ ?_ ?_
              rotate_left
              · simp [g, f, e, a, b, i, j, k, o]; rfl
              · first | (simp [g, f, e, a, b, i, j, k, o] <;> omega) | (have hq := o; simp at hq; simp [g, f, e, a, b, i, j, k, o, hq]; done) | skip
            obtain ⟨am, h⟩ := oguard h
            iterate 1
              refine regv_pure (s1 := ?_) rfl rfl ?_ ?_ ?_
              rotate_left
              · simp [g, f, e, a, b, i, j, k, o, am]; rfl
              · first | (simp [g, f, e, a, b, i, j, k, o, am] <;> omega) | (have hq := am; simp at hq; simp [g, f, e, a, b, i, j, k, o, am, hq]; done) | skip
            obtain ⟨bu, ay, h⟩ := obind h
            have ak := congrArg (List.map cB) (Option.some.inj ay)
            have aj := (congrArg List.length (Option.some.inj ay)).symm
            try simp [g, f, e, a, b, i, j, k, o, am] at ak
            try simp [g, f, e, a, b, i, j, k, o, am] at aj
            clear ay
            try simp only [ak]
            iterate 1
              refine regv_pure (s1 := ?_) rfl rfl ?_ ?_ ?_
              rotate_left
              · simp [g, f, e, a, b, i, j, k, o, am, ak, aj]; rfl
              · first | (simp [g, f, e, a, b, i, j, k, o, am, ak, aj] <;> omega) | (have hq := aj; simp at hq; simp [g, f, e, a, b, i, j, k, o, am, ak, aj, hq]; done) | skip
            refine regv_nil ?_
            refine Wp.exit ?_
            show Wp _ _ _ _
            refine Wp.reg (own := fun _ => false) tt_ok ?_
            iterate 3
              refine regv_pure (s1 := ?_) rfl rfl ?_ ?_ ?_
              rotate_left
              · simp [g, f, e, a, b, i, j, k, o, am, ak, aj]; rfl
              · first | (simp [g, f, e, a, b, i, j, k, o, am, ak, aj] <;> omega) | (have hq := aj; simp at hq; simp [g, f, e, a, b, i, j, k, o, am, ak, aj, hq]; done) | skip
            refine regv_nil ?_
            refine next_mk (bu, (IntKind.i64.wrap (ap + 1)), az, aq) h ?_
            refine Reloc.mk2 [some 0, some 1, some 2, some 3, some 6] rfl rfl rfl (by decide) ?_ ?_
            · repeat' first | exact objsLe_nil | refine objsLe_cons ?_ ?_
              all_goals first
                | exact trivial
                | (refine ObjLe.var' rfl rfl ?_ rfl
                   repeat' first | exact All2.nil | refine All2.cons ?_ ?_
                   all_goals first | (exact AvLe.refl _ rfl) | (exact AvLe.sl _ _ _ _ rfl) | (exact AvLe.hptr _ _ _ _ rfl) | (exact AvLe.mp _ _ rfl) | (exact AvLe.nil _) | (exact AvLe.znil _) | (exact AvLe.ghost _ rfl) | (exact AvLe.zghost _ rfl) | (exact AvLe.sl' rfl (by simp [g, f, e, a, b, i, j, k, o, am, ak, aj]; done) (by first | (simp [g, f, e, a, b, i, j, k, o, am, ak, aj] <;> omega) | omega)) | (exact AvLe.frz2 rfl (by simp) rfl (by simp [g, f, e, a, b, i, j, k, o, am, ak, aj]; done) (by simp [g, f, e, a, b, i, j, k, o, am, ak, aj]; done) (by simp [g, f, e, a, b, i, j, k, o, am, ak, aj]; done)) | (exact AvLe.list' (by simp [g, f, e, a, b, i, j, k, o, am, ak, aj]; done) (by simp [g, f, e, a, b, i, j, k, o, am, ak, aj]; done)) | (exact AvLe.eq (by simp [g, f, e, a, b, i, j, k, o, am, ak, aj]; done) rfl))
                | (exact ObjLe.map' rfl rfl)
                | (exact ObjLe.ghost' rfl (by decide))
                | (exact ObjLe.arr' rfl rfl (by first | (simp [g, f, e, a, b, i, j, k, o, am, ak, aj] <;> omega)) (fun _ _ => by first | rfl | (simp [g, f, e, a, b, i, j, k, o, am, ak, aj]; done)))
                | ((simp [g, f, e, a, b, i, j, k, o, am, ak, aj]; done))
            · repeat' first | exact chLe_nil | refine chLe_cons ?_ ?_
              all_goals first
                | (exact AvLe.refl _ rfl)
                | (exact AvLe.sl _ _ _ _ rfl)
                | (exact AvLe.hptr _ _ _ _ rfl)
                | (exact AvLe.mp _ _ rfl)
                | (exact AvLe.nil _)
                | (exact AvLe.znil _)
                | (exact AvLe.ghost _ rfl)
                | (exact AvLe.zghost _ rfl)
                | (exact AvLe.sl' rfl (by simp [g, f, e, a, b, i, j, k, o, am, ak, aj]; done) (by first | (simp [g, f, e, a, b, i, j, k, o, am, ak, aj] <;> omega) | omega))
                | (exact AvLe.frz2 rfl (by simp) rfl (by simp [g, f, e, a, b, i, j, k, o, am, ak, aj]; done) (by simp [g, f, e, a, b, i, j, k, o, am, ak, aj]; done) (by simp [g, f, e, a, b, i, j, k, o, am, ak, aj]; done))
                | (exact AvLe.list' (by simp [g, f, e, a, b, i, j, k, o, am, ak, aj]; done) (by simp [g, f, e, a, b, i, j, k, o, am, ak, aj]; done))
                | (exact AvLe.eq (by simp [g, f, e, a, b, i, j, k, o, am, ak, aj]; done) rfl)
        · rw [k, if_pos rfl] at h
          refine Wp.cond true (by first | (simp [g, f, e, a, b, i, j, k] <;> omega) | (have hq := k; simp at hq; simp [g, f, e, a, b, i, j, k, hq]; done)) (fun _ => ?_) (fun h0 => absurd h0 (by decide))
          refine Wp.reg_seq (own := fun _ => false) tt_ok ?_
          iterate 5
            refine regv_pure (s1 := ?_) rfl rfl ?_ ?_ ?_
            rotate_left
            · simp [g, f, e, a, b, i, j, k]; rfl
            · first | (simp [g, f, e, a, b, i, j, k] <;> omega) | (have hq := k; simp at hq; simp [g, f, e, a, b, i, j, k, hq]; done) | skip
          refine regv_nil ?_
          cases h
          refine Wp.ret (endQ_ret0 rfl ?_)
          repeat' first | exact All2.nil | refine All2.cons ?_ ?_ | refine AvLe.tups ?_ | refine AvLe.aggs ?_
          all_goals first
            | (exact AvLe.refl _ rfl)
            | (exact AvLe.nil _)
            | (exact AvLe.znil _)
            | (exact AvLe.ghost _ rfl)
            | (exact AvLe.zghost _ rfl)
            | (exact AvLe.sl' rfl (by simp [g, f, e, a, b, i, j, k]; done) (by simp [g, f, e, a, b, i, j, k]; done))
            | (exact AvLe.frz' rfl rfl rfl (by simp [g, f, e, a, b, i, j, k]; done) (by simp [g, f, e, a, b, i, j, k]; done) (by simp [g, f, e, a, b, i, j, k]; done))
            | (exact AvLe.list' (by simp [g, f, e, a, b, i, j, k]; done) (by simp [g, f, e, a, b, i, j, k]; done))
            | (exact AvLe.eq (by simp [g, f, e, a, b, i, j, k]; done) rfl)
      · rw [if_pos (decide_eq_true j)] at h
        refine Wp.cond true (by first | (simp [g, f, e, a, b, i, j] <;> omega) | (have hq := j; simp at hq; simp [g, f, e, a, b, i, j, hq]; done)) (fun _ => ?_) (fun h0 => absurd h0 (by decide))
        refine Wp.reg_seq (own := fun _ => false) tt_ok ?_
        iterate 4
          refine regv_pure (s1 := ?_) rfl rfl ?_ ?_ ?_
          rotate_left
          · simp [g, f, e, a, b, i, j]; rfl
          · first | (simp [g, f, e, a, b, i, j] <;> omega) | (have hq := j; simp at hq; simp [g, f, e, a, b, i, j, hq]; done) | skip
        refine regv_nil ?_
        cases h
        refine Wp.ret (endQ_ret0 rfl ?_)
        repeat' first | exact All2.nil | refine All2.cons ?_ ?_ | refine AvLe.tups ?_ | refine AvLe.aggs ?_
        all_goals first
          | (exact AvLe.refl _ rfl)
          | (exact AvLe.nil _)
          | (exact AvLe.znil _)
          | (exact AvLe.ghost _ rfl)
          | (exact AvLe.zghost _ rfl)
          | (exact AvLe.sl' rfl (by simp [g, f, e, a, b, i, j]; done) (by simp [g, f, e, a, b, i, j]; done))
          | (exact AvLe.frz' rfl rfl rfl (by simp [g, f, e, a, b, i, j]; done) (by simp [g, f, e, a, b, i, j]; done) (by simp [g, f, e, a, b, i, j]; done))
          | (exact AvLe.list' (by simp [g, f, e, a, b, i, j]; done) (by simp [g, f, e, a, b, i, j]; done))
          | (exact AvLe.eq (by simp [g, f, e, a, b, i, j]; done) rfl)
    · rw [if_pos (decide_eq_true i)] at h
      refine regv_skip (s1 := ?_) ?_ ?_ ?_
      rotate_left
      · simp [g, f, e, a, b, i]; done
      · simp [g, f, e, a, b, i]; rfl
      refine regv_skip (s1 := ?_) ?_ ?_ ?_
      rotate_left
      · simp [g, f, e, a, b, i]; done
      · simp [g, f, e, a, b, i]; rfl
      refine regv_skip (s1 := ?_) ?_ ?_ ?_
      rotate_left
      · simp [g, f, e, a, b, i]; done
      · simp [g, f, e, a, b, i]; rfl
      iterate 1
        refine regv_pure (s1 := ?_) rfl rfl ?_ ?_ ?_
        rotate_left
        · simp [g, f, e, a, b, i]; rfl
        · first | (simp [g, f, e, a, b, i] <;> omega) | (have hq := i; simp at hq; simp [g, f, e, a, b, i, hq]; done) | skip
      refine regv_nil ?_
      refine Wp.cond true (by first | (simp [g, f, e, a, b, i] <;> omega) | (have hq := i; simp at hq; simp [g, f, e, a, b, i, hq]; done)) (fun _ => ?_) (fun h0 => absurd h0 (by decide))
      refine Wp.reg_seq (own := fun _ => false) tt_ok ?_
      iterate 4
        refine regv_pure (s1 := ?_) rfl rfl ?_ ?_ ?_
        rotate_left
        · simp [g, f, e, a, b, i]; rfl
        · first | (simp [g, f, e, a, b, i] <;> omega) | (have hq := i; simp at hq; simp [g, f, e, a, b, i, hq]; done) | skip
      refine regv_nil ?_
      cases h
      refine Wp.ret (endQ_ret0 rfl ?_)
      repeat' first | exact All2.nil | refine All2.cons ?_ ?_ | refine AvLe.tups ?_ | refine AvLe.aggs ?_
      all_goals first
        | (exact AvLe.refl _ rfl)
        | (exact AvLe.nil _)
        | (exact AvLe.znil _)
        | (exact AvLe.ghost _ rfl)
        | (exact AvLe.zghost _ rfl)
        | (exact AvLe.sl' rfl (by simp [g, f, e, a, b, i]; done) (by simp [g, f, e, a, b, i]; done))
        | (exact AvLe.frz' rfl rfl rfl (by simp [g, f, e, a, b, i]; done) (by simp [g, f, e, a, b, i]; done) (by simp [g, f, e, a, b, i]; done))
        | (exact AvLe.list' (by simp [g, f, e, a, b, i]; done) (by simp [g, f, e, a, b, i]; done))
        | (exact AvLe.eq (by simp [g, f, e, a, b, i]; done) rfl)

end Go.Proofs.Ytgbgmijighbfbaa

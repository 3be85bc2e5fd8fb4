/- Contracts: models of functions are right. No law is proved here. -/
import Derived.Test.YtgbgmijighbfbaaGC0
namespace Go.Proofs.Ytgbgmijighbfbaa
open Go.Av Go.G
attribute [local simp] runf guardA opf St.ev Go.Av.look St.setd constAV constAV0 opBin opLen intBin St.need lookT TT0 tab resA resOne resAll blt_dec ble_dec beq_dec isPure
attribute [local simp] opMakeSlice opCopy opIndexAddr opLoad opStore St.mem St.rows opUn calleeA toArgs toArg toArg0 toArgs0 shift shift0 shift1 splice cellsOf isFree ofCells TS.isAgg isCell strBin opConvert
attribute [local simp] opBuildSlice fillA opAppend eqC eqA cksB ckB St.newBox runI valKind withinB readsHp refsD refs noSl opFieldAddr opBuild placeOf Op.operands Call.operands opIndex opExtract opSlice opField partA
attribute [local simp] loA hiA lenA opMakeMap opLookup opMapUpdate keyOk findA_int findA_str putA_strB putA_strI putA_intB mAV_length mAV_nil
attribute [local simp] aL cI cB cS cL rw_map fz_rw fz_const dropRow_rw fz_append fz_set fz_copy fz_rows rowLen_rw rowsLen_nil rowsLen_cons rowsLen_append rowsLen_map rowsLen_take rowsLen_drop rowsLen_replicate take_map_len take_map_le drop_map_len take_drop_len chunks isScalar isScalar0
attribute [local congr] bind_congr1 map_congr1 cond_congr1
attribute [local simp] cApiAddr cApiContact cApiCoil cApiRung cApiState
set_option maxHeartbeats 4000000
set_option linter.unusedSimpArgs false
set_option linter.unusedVariables false

theorem con_law16_alive {n : Nat} {r : Bool} (h : law16_alive n  = some r) : Con Try.prog 11 [] (.bool r) [] := by
  refine con_of (T := TT0) tt_ok Try.func11 (c := _) (by unfold Try.f11; rfl) Try.ntmps11 (rs := [.tmp 0]) (by rw [Try.results11]) (by unfold Try.f11; rfl) (by simp) ?_
  simp only [argsCh]
  dsimp only [law16_alive] at h
  refine Wp.reg_seq (own := fun _ => false) tt_ok ?_
  iterate 1
    refine regv_pure (s1 := ?_) rfl rfl ?_ ?_ ?_
    rotate_left
    · simp []; rfl
    · first | (simp [] <;> omega) | skip
  refine regv_nil ?_
  refine Wp.reg_seq (own := fun _ => false) tt_ok ?_
  iterate 2
    refine regv_pure (s1 := ?_) rfl rfl ?_ ?_ ?_
    rotate_left
    · simp []; rfl
    · first | (simp [] <;> omega) | skip
  obtain ⟨bw, aw, h⟩ := obind h
  have a := congrArg (List.map cApiContact) (Option.some.inj aw)
  have b := (congrArg List.length (Option.some.inj aw)).symm
  try simp [] at a
  try simp [] at b
  clear aw
  try simp only [a]
  iterate 3
    refine regv_pure (s1 := ?_) rfl rfl ?_ ?_ ?_
    rotate_left
    · simp [a, b]; rfl
    · first | (simp [a, b] <;> omega) | (have hq := b; simp at hq; simp [a, b, hq]; done) | skip
  obtain ⟨bz, ay, h⟩ := obind h
  have e := congrArg (List.map cApiCoil) (Option.some.inj ay)
  have d := (congrArg List.length (Option.some.inj ay)).symm
  try simp [a, b] at e
  try simp [a, b] at d
  clear ay
  try simp only [e]
  iterate 3
    refine regv_pure (s1 := ?_) rfl rfl ?_ ?_ ?_
    rotate_left
    · simp [a, b, e, d]; rfl
    · first | (simp [a, b, e, d] <;> omega) | (have hq := d; simp at hq; simp [a, b, e, d, hq]; done) | skip
  refine regv_nil ?_
  refine Wp.reg_seq (own := fun _ => false) tt_ok ?_
  iterate 2
    refine regv_pure (s1 := ?_) rfl rfl ?_ ?_ ?_
    rotate_left
    · simp [a, b, e, d]; rfl
    · first | (simp [a, b, e, d] <;> omega) | (have hq := d; simp at hq; simp [a, b, e, d, hq]; done) | skip
  obtain ⟨ca, az, h⟩ := obind h
  have f := congrArg (List.map cB) (Option.some.inj az)
  have g := (congrArg List.length (Option.some.inj az)).symm
  try simp [a, b, e, d] at f
  try simp [a, b, e, d] at g
  clear az
  try simp only [f]
  iterate 1
    refine regv_pure (s1 := ?_) rfl rfl ?_ ?_ ?_
    rotate_left
    · simp [a, b, e, d, f, g]; rfl
    · first | (simp [a, b, e, d, f, g] <;> omega) | (have hq := g; simp at hq; simp [a, b, e, d, f, g, hq]; done) | skip
  obtain ⟨cb, ba, h⟩ := obind h
  have i := congrArg (List.map cB) (Option.some.inj ba)
  have j := (congrArg List.length (Option.some.inj ba)).symm
  try simp [a, b, e, d, f, g] at i
  try simp [a, b, e, d, f, g] at j
  clear ba
  try simp only [i]
  iterate 1
    refine regv_pure (s1 := ?_) rfl rfl ?_ ?_ ?_
    rotate_left
    · simp [a, b, e, d, f, g, i, j]; rfl
    · first | (simp [a, b, e, d, f, g, i, j] <;> omega) | (have hq := j; simp at hq; simp [a, b, e, d, f, g, i, j, hq]; done) | skip
  obtain ⟨cc, bb, h⟩ := obind h
  have m := congrArg (List.map cB) (Option.some.inj bb)
  have k := (congrArg List.length (Option.some.inj bb)).symm
  try simp [a, b, e, d, f, g, i, j] at m
  try simp [a, b, e, d, f, g, i, j] at k
  clear bb
  try simp only [m]
  iterate 1
    refine regv_pure (s1 := ?_) rfl rfl ?_ ?_ ?_
    rotate_left
    · simp [a, b, e, d, f, g, i, j, m, k]; rfl
    · first | (simp [a, b, e, d, f, g, i, j, m, k] <;> omega) | (have hq := k; simp at hq; simp [a, b, e, d, f, g, i, j, m, k, hq]; done) | skip
  obtain ⟨⟨bd, bk, bm⟩, be, h⟩ := obind h
  dsimp only at h
  refine regv_call2 (s' := ?_) (p := ?_) (con_rungeval_Scan be) rfl rfl rfl rfl ?_ ?_ ?_ ?_ ?_ ?_
  rotate_left 2
  · simp [a, b, e, d, f, g, i, j, m, k]; rfl
  · first | exact .inl rfl | (refine .inl ?_; simp [a, b, e, d, f, g, i, j, m, k]; done) | (refine .inr ?_; dsimp only; repeat' first | exact All2.nil | refine All2.cons ?_ ?_) <;> first | exact AvLe.refl _ rfl | exact AvLe.nil _ | exact AvLe.znil _ | exact AvLe.list' (by simp [a, b, e, d, f, g, i, j, m, k]; done) (by simp [a, b, e, d, f, g, i, j, m, k]; done) | exact AvLe.eq (by simp [a, b, e, d, f, g, i, j, m, k]; done) rfl
  · first | (simp [a, b, e, d, f, g, i, j, m, k] <;> omega) | (have hq := k; simp at hq; simp [a, b, e, d, f, g, i, j, m, k, hq]; done) | skip
  · simp
  · simp [a, b, e, d, f, g, i, j, m, k]; rfl
  iterate 8
    refine regv_pure (s1 := ?_) rfl rfl ?_ ?_ ?_
    rotate_left
    · simp [a, b, e, d, f, g, i, j, m, k]; rfl
    · first | (simp [a, b, e, d, f, g, i, j, m, k] <;> omega) | (have hq := k; simp at hq; simp [a, b, e, d, f, g, i, j, m, k, hq]; done) | skip
  refine regv_nil ?_
  refine Wp.reg_seq (own := fun _ => false) tt_ok ?_
  iterate 2
    refine regv_pure (s1 := ?_) rfl rfl ?_ ?_ ?_
    rotate_left
    · simp [a, b, e, d, f, g, i, j, m, k]; rfl
    · first | (simp [a, b, e, d, f, g, i, j, m, k] <;> omega) | (have hq := k; simp at hq; simp [a, b, e, d, f, g, i, j, m, k, hq]; done) | skip
  obtain ⟨cd, bc, h⟩ := obind h
  have q := congrArg (List.map cB) (Option.some.inj bc)
  have o := (congrArg List.length (Option.some.inj bc)).symm
  try simp [a, b, e, d, f, g, i, j, m, k] at q
  try simp [a, b, e, d, f, g, i, j, m, k] at o
  clear bc
  try simp only [q]
  iterate 1
    refine regv_pure (s1 := ?_) rfl rfl ?_ ?_ ?_
    rotate_left
    · simp [a, b, e, d, f, g, i, j, m, k, q, o]; rfl
    · first | (simp [a, b, e, d, f, g, i, j, m, k, q, o] <;> omega) | (have hq := o; simp at hq; simp [a, b, e, d, f, g, i, j, m, k, q, o, hq]; done) | skip
  obtain ⟨⟨bo, bp, bq⟩, bf, h⟩ := obind h
  dsimp only at h
  refine regv_call2 (s' := ?_) (p := ?_) (con_rungeval_Scan bf) rfl rfl rfl rfl ?_ ?_ ?_ ?_ ?_ ?_
  rotate_left 2
  · simp [a, b, e, d, f, g, i, j, m, k, q, o]; rfl
  · first | exact .inl rfl | (refine .inl ?_; simp [a, b, e, d, f, g, i, j, m, k, q, o]; done) | (refine .inr ?_; dsimp only; repeat' first | exact All2.nil | refine All2.cons ?_ ?_) <;> first | exact AvLe.refl _ rfl | exact AvLe.nil _ | exact AvLe.znil _ | exact AvLe.list' (by simp [a, b, e, d, f, g, i, j, m, k, q, o]; done) (by simp [a, b, e, d, f, g, i, j, m, k, q, o]; done) | exact AvLe.eq (by simp [a, b, e, d, f, g, i, j, m, k, q, o]; done) rfl
  · first | (simp [a, b, e, d, f, g, i, j, m, k, q, o] <;> omega) | (have hq := o; simp at hq; simp [a, b, e, d, f, g, i, j, m, k, q, o, hq]; done) | skip
  · simp
  · simp [a, b, e, d, f, g, i, j, m, k, q, o]; rfl
  iterate 8
    refine regv_pure (s1 := ?_) rfl rfl ?_ ?_ ?_
    rotate_left
    · simp [a, b, e, d, f, g, i, j, m, k, q, o]; rfl
    · first | (simp [a, b, e, d, f, g, i, j, m, k, q, o] <;> omega) | (have hq := o; simp at hq; simp [a, b, e, d, f, g, i, j, m, k, q, o, hq]; done) | skip
  refine regv_nil ?_
  refine Wp.reg_seq (own := fun _ => false) tt_ok ?_
  iterate 3
    refine regv_pure (s1 := ?_) rfl rfl ?_ ?_ ?_
    rotate_left
    · simp [a, b, e, d, f, g, i, j, m, k, q, o]; rfl
    · first | (simp [a, b, e, d, f, g, i, j, m, k, q, o] <;> omega) | (have hq := o; simp at hq; simp [a, b, e, d, f, g, i, j, m, k, q, o, hq]; done) | skip
  cases u : (bm == 0)
  · rw [u, if_neg (by simp)] at h
    refine regv_skip (s1 := ?_) ?_ ?_ ?_
    rotate_left
    · simp [a, b, e, d, f, g, i, j, m, k, q, o, u]; done
    · simp [a, b, e, d, f, g, i, j, m, k, q, o, u]; rfl
    iterate 2
      refine regv_pure (s1 := ?_) rfl rfl ?_ ?_ ?_
      rotate_left
      · simp [a, b, e, d, f, g, i, j, m, k, q, o, u]; rfl
      · first | (simp [a, b, e, d, f, g, i, j, m, k, q, o, u] <;> omega) | (have hq := u; simp at hq; simp [a, b, e, d, f, g, i, j, m, k, q, o, u, hq]; done) | skip
    refine regv_skip (s1 := ?_) ?_ ?_ ?_
    rotate_left
    · simp [a, b, e, d, f, g, i, j, m, k, q, o, u]; done
    · simp [a, b, e, d, f, g, i, j, m, k, q, o, u]; rfl
    refine regv_skip (s1 := ?_) ?_ ?_ ?_
    rotate_left
    · simp [a, b, e, d, f, g, i, j, m, k, q, o, u]; done
    · simp [a, b, e, d, f, g, i, j, m, k, q, o, u]; rfl
    refine regv_skip (s1 := ?_) ?_ ?_ ?_
    rotate_left
    · simp [a, b, e, d, f, g, i, j, m, k, q, o, u]; done
    · simp [a, b, e, d, f, g, i, j, m, k, q, o, u]; rfl
    refine regv_skip (s1 := ?_) ?_ ?_ ?_
    rotate_left
    · simp [a, b, e, d, f, g, i, j, m, k, q, o, u]; done
    · simp [a, b, e, d, f, g, i, j, m, k, q, o, u]; rfl
    iterate 2
      refine regv_pure (s1 := ?_) rfl rfl ?_ ?_ ?_
      rotate_left
      · simp [a, b, e, d, f, g, i, j, m, k, q, o, u]; rfl
      · first | (simp [a, b, e, d, f, g, i, j, m, k, q, o, u] <;> omega) | (have hq := u; simp at hq; simp [a, b, e, d, f, g, i, j, m, k, q, o, u, hq]; done) | skip
    refine regv_skip (s1 := ?_) ?_ ?_ ?_
    rotate_left
    · simp [a, b, e, d, f, g, i, j, m, k, q, o, u]; done
    · simp [a, b, e, d, f, g, i, j, m, k, q, o, u]; rfl
    refine regv_skip (s1 := ?_) ?_ ?_ ?_
    rotate_left
    · simp [a, b, e, d, f, g, i, j, m, k, q, o, u]; done
    · simp [a, b, e, d, f, g, i, j, m, k, q, o, u]; rfl
    refine regv_skip (s1 := ?_) ?_ ?_ ?_
    rotate_left
    · simp [a, b, e, d, f, g, i, j, m, k, q, o, u]; done
    · simp [a, b, e, d, f, g, i, j, m, k, q, o, u]; rfl
    refine regv_skip (s1 := ?_) ?_ ?_ ?_
    rotate_left
    · simp [a, b, e, d, f, g, i, j, m, k, q, o, u]; done
    · simp [a, b, e, d, f, g, i, j, m, k, q, o, u]; rfl
    iterate 2
      refine regv_pure (s1 := ?_) rfl rfl ?_ ?_ ?_
      rotate_left
      · simp [a, b, e, d, f, g, i, j, m, k, q, o, u]; rfl
      · first | (simp [a, b, e, d, f, g, i, j, m, k, q, o, u] <;> omega) | (have hq := u; simp at hq; simp [a, b, e, d, f, g, i, j, m, k, q, o, u, hq]; done) | skip
    refine regv_skip (s1 := ?_) ?_ ?_ ?_
    rotate_left
    · simp [a, b, e, d, f, g, i, j, m, k, q, o, u]; done
    · simp [a, b, e, d, f, g, i, j, m, k, q, o, u]; rfl
    refine regv_skip (s1 := ?_) ?_ ?_ ?_
    rotate_left
    · simp [a, b, e, d, f, g, i, j, m, k, q, o, u]; done
    · simp [a, b, e, d, f, g, i, j, m, k, q, o, u]; rfl
    refine regv_skip (s1 := ?_) ?_ ?_ ?_
    rotate_left
    · simp [a, b, e, d, f, g, i, j, m, k, q, o, u]; done
    · simp [a, b, e, d, f, g, i, j, m, k, q, o, u]; rfl
    refine regv_skip (s1 := ?_) ?_ ?_ ?_
    rotate_left
    · simp [a, b, e, d, f, g, i, j, m, k, q, o, u]; done
    · simp [a, b, e, d, f, g, i, j, m, k, q, o, u]; rfl
    iterate 2
      refine regv_pure (s1 := ?_) rfl rfl ?_ ?_ ?_
      rotate_left
      · simp [a, b, e, d, f, g, i, j, m, k, q, o, u]; rfl
      · first | (simp [a, b, e, d, f, g, i, j, m, k, q, o, u] <;> omega) | (have hq := u; simp at hq; simp [a, b, e, d, f, g, i, j, m, k, q, o, u, hq]; done) | skip
    refine regv_skip (s1 := ?_) ?_ ?_ ?_
    rotate_left
    · simp [a, b, e, d, f, g, i, j, m, k, q, o, u]; done
    · simp [a, b, e, d, f, g, i, j, m, k, q, o, u]; rfl
    refine regv_skip (s1 := ?_) ?_ ?_ ?_
    rotate_left
    · simp [a, b, e, d, f, g, i, j, m, k, q, o, u]; done
    · simp [a, b, e, d, f, g, i, j, m, k, q, o, u]; rfl
    refine regv_skip (s1 := ?_) ?_ ?_ ?_
    rotate_left
    · simp [a, b, e, d, f, g, i, j, m, k, q, o, u]; done
    · simp [a, b, e, d, f, g, i, j, m, k, q, o, u]; rfl
    refine regv_skip (s1 := ?_) ?_ ?_ ?_
    rotate_left
    · simp [a, b, e, d, f, g, i, j, m, k, q, o, u]; done
    · simp [a, b, e, d, f, g, i, j, m, k, q, o, u]; rfl
    iterate 2
      refine regv_pure (s1 := ?_) rfl rfl ?_ ?_ ?_
      rotate_left
      · simp [a, b, e, d, f, g, i, j, m, k, q, o, u]; rfl
      · first | (simp [a, b, e, d, f, g, i, j, m, k, q, o, u] <;> omega) | (have hq := u; simp at hq; simp [a, b, e, d, f, g, i, j, m, k, q, o, u, hq]; done) | skip
    refine regv_skip (s1 := ?_) ?_ ?_ ?_
    rotate_left
    · simp [a, b, e, d, f, g, i, j, m, k, q, o, u]; done
    · simp [a, b, e, d, f, g, i, j, m, k, q, o, u]; rfl
    refine regv_skip (s1 := ?_) ?_ ?_ ?_
    rotate_left
    · simp [a, b, e, d, f, g, i, j, m, k, q, o, u]; done
    · simp [a, b, e, d, f, g, i, j, m, k, q, o, u]; rfl
    iterate 2
      refine regv_pure (s1 := ?_) rfl rfl ?_ ?_ ?_
      rotate_left
      · simp [a, b, e, d, f, g, i, j, m, k, q, o, u]; rfl
      · first | (simp [a, b, e, d, f, g, i, j, m, k, q, o, u] <;> omega) | (have hq := u; simp at hq; simp [a, b, e, d, f, g, i, j, m, k, q, o, u, hq]; done) | skip
    refine regv_skip (s1 := ?_) ?_ ?_ ?_
    rotate_left
    · simp [a, b, e, d, f, g, i, j, m, k, q, o, u]; done
    · simp [a, b, e, d, f, g, i, j, m, k, q, o, u]; rfl
    refine regv_skip (s1 := ?_) ?_ ?_ ?_
    rotate_left
    · simp [a, b, e, d, f, g, i, j, m, k, q, o, u]; done
    · simp [a, b, e, d, f, g, i, j, m, k, q, o, u]; rfl
    iterate 2
      refine regv_pure (s1 := ?_) rfl rfl ?_ ?_ ?_
      rotate_left
      · simp [a, b, e, d, f, g, i, j, m, k, q, o, u]; rfl
      · first | (simp [a, b, e, d, f, g, i, j, m, k, q, o, u] <;> omega) | (have hq := u; simp at hq; simp [a, b, e, d, f, g, i, j, m, k, q, o, u, hq]; done) | skip
    refine regv_skip (s1 := ?_) ?_ ?_ ?_
    rotate_left
    · simp [a, b, e, d, f, g, i, j, m, k, q, o, u]; done
    · simp [a, b, e, d, f, g, i, j, m, k, q, o, u]; rfl
    refine regv_skip (s1 := ?_) ?_ ?_ ?_
    rotate_left
    · simp [a, b, e, d, f, g, i, j, m, k, q, o, u]; done
    · simp [a, b, e, d, f, g, i, j, m, k, q, o, u]; rfl
    refine regv_skip (s1 := ?_) ?_ ?_ ?_
    rotate_left
    · simp [a, b, e, d, f, g, i, j, m, k, q, o, u]; done
    · simp [a, b, e, d, f, g, i, j, m, k, q, o, u]; rfl
    refine regv_skip (s1 := ?_) ?_ ?_ ?_
    rotate_left
    · simp [a, b, e, d, f, g, i, j, m, k, q, o, u]; done
    · simp [a, b, e, d, f, g, i, j, m, k, q, o, u]; rfl
    iterate 2
      refine regv_pure (s1 := ?_) rfl rfl ?_ ?_ ?_
      rotate_left
      · simp [a, b, e, d, f, g, i, j, m, k, q, o, u]; rfl
      · first | (simp [a, b, e, d, f, g, i, j, m, k, q, o, u] <;> omega) | (have hq := u; simp at hq; simp [a, b, e, d, f, g, i, j, m, k, q, o, u, hq]; done) | skip
    refine regv_skip (s1 := ?_) ?_ ?_ ?_
    rotate_left
    · simp [a, b, e, d, f, g, i, j, m, k, q, o, u]; done
    · simp [a, b, e, d, f, g, i, j, m, k, q, o, u]; rfl
    refine regv_skip (s1 := ?_) ?_ ?_ ?_
    rotate_left
    · simp [a, b, e, d, f, g, i, j, m, k, q, o, u]; done
    · simp [a, b, e, d, f, g, i, j, m, k, q, o, u]; rfl
    refine regv_skip (s1 := ?_) ?_ ?_ ?_
    rotate_left
    · simp [a, b, e, d, f, g, i, j, m, k, q, o, u]; done
    · simp [a, b, e, d, f, g, i, j, m, k, q, o, u]; rfl
    refine regv_skip (s1 := ?_) ?_ ?_ ?_
    rotate_left
    · simp [a, b, e, d, f, g, i, j, m, k, q, o, u]; done
    · simp [a, b, e, d, f, g, i, j, m, k, q, o, u]; rfl
    refine regv_skip (s1 := ?_) ?_ ?_ ?_
    rotate_left
    · simp [a, b, e, d, f, g, i, j, m, k, q, o, u]; done
    · simp [a, b, e, d, f, g, i, j, m, k, q, o, u]; rfl
    iterate 2
      refine regv_pure (s1 := ?_) rfl rfl ?_ ?_ ?_
      rotate_left
      · simp [a, b, e, d, f, g, i, j, m, k, q, o, u]; rfl
      · first | (simp [a, b, e, d, f, g, i, j, m, k, q, o, u] <;> omega) | (have hq := u; simp at hq; simp [a, b, e, d, f, g, i, j, m, k, q, o, u, hq]; done) | skip
    refine regv_nil ?_
    cases h
    refine Wp.ret (endQ_ret0 rfl ?_)
    repeat' first | exact All2.nil | refine All2.cons ?_ ?_ | refine AvLe.tups ?_ | refine AvLe.aggs ?_
    all_goals first
      | (exact AvLe.refl _ rfl)
      | (exact AvLe.nil _)
      | (exact AvLe.znil _)
      | (exact AvLe.ghost _ rfl)
      | (exact AvLe.zghost _ rfl)
      | (exact AvLe.sl' rfl (by simp [a, b, e, d, f, g, i, j, m, k, q, o, u]; done) (by simp [a, b, e, d, f, g, i, j, m, k, q, o, u]; done))
      | (exact AvLe.frz' rfl rfl rfl (by simp [a, b, e, d, f, g, i, j, m, k, q, o, u]; done) (by simp [a, b, e, d, f, g, i, j, m, k, q, o, u]; done) (by simp [a, b, e, d, f, g, i, j, m, k, q, o, u]; done))
      | (exact AvLe.list' (by simp [a, b, e, d, f, g, i, j, m, k, q, o, u]; done) (by simp [a, b, e, d, f, g, i, j, m, k, q, o, u]; done))
      | (exact AvLe.eq (by simp [a, b, e, d, f, g, i, j, m, k, q, o, u]; done) rfl)
  · rw [u, if_pos rfl] at h
    refine regv_pure (s1 := ?_) rfl ?_ ?_ ?_ ?_
    rotate_left
    · simp [a, b, e, d, f, g, i, j, m, k, q, o, u]; done
    · simp [a, b, e, d, f, g, i, j, m, k, q, o, u]; rfl
    · first | (simp [a, b, e, d, f, g, i, j, m, k, q, o, u] <;> omega) | (have hq := u; simp at hq; simp [a, b, e, d, f, g, i, j, m, k, q, o, u, hq]; done) | skip
    iterate 2
      refine regv_pure (s1 := ?_) rfl rfl ?_ ?_ ?_
      rotate_left
      · simp [a, b, e, d, f, g, i, j, m, k, q, o, u]; rfl
      · first | (simp [a, b, e, d, f, g, i, j, m, k, q, o, u] <;> omega) | (have hq := u; simp at hq; simp [a, b, e, d, f, g, i, j, m, k, q, o, u, hq]; done) | skip
    cases v : bk
    · rw [v, if_neg (by simp)] at h
      refine regv_skip (s1 := ?_) ?_ ?_ ?_
      rotate_left
      · simp [a, b, e, d, f, g, i, j, m, k, q, o, u, v]; done
      · simp [a, b, e, d, f, g, i, j, m, k, q, o, u, v]; rfl
      refine regv_skip (s1 := ?_) ?_ ?_ ?_
      rotate_left
      · simp [a, b, e, d, f, g, i, j, m, k, q, o, u, v]; done
      · simp [a, b, e, d, f, g, i, j, m, k, q, o, u, v]; rfl
      refine regv_skip (s1 := ?_) ?_ ?_ ?_
      rotate_left
      · simp [a, b, e, d, f, g, i, j, m, k, q, o, u, v]; done
      · simp [a, b, e, d, f, g, i, j, m, k, q, o, u, v]; rfl
      refine regv_skip (s1 := ?_) ?_ ?_ ?_
      rotate_left
      · simp [a, b, e, d, f, g, i, j, m, k, q, o, u, v]; done
      · simp [a, b, e, d, f, g, i, j, m, k, q, o, u, v]; rfl
      iterate 2
        refine regv_pure (s1 := ?_) rfl rfl ?_ ?_ ?_
        rotate_left
        · simp [a, b, e, d, f, g, i, j, m, k, q, o, u, v]; rfl
        · first | (simp [a, b, e, d, f, g, i, j, m, k, q, o, u, v] <;> omega) | (have hq := v; simp at hq; simp [a, b, e, d, f, g, i, j, m, k, q, o, u, v, hq]; done) | skip
      refine regv_skip (s1 := ?_) ?_ ?_ ?_
      rotate_left
      · simp [a, b, e, d, f, g, i, j, m, k, q, o, u, v]; done
      · simp [a, b, e, d, f, g, i, j, m, k, q, o, u, v]; rfl
      refine regv_skip (s1 := ?_) ?_ ?_ ?_
      rotate_left
      · simp [a, b, e, d, f, g, i, j, m, k, q, o, u, v]; done
      · simp [a, b, e, d, f, g, i, j, m, k, q, o, u, v]; rfl
      refine regv_skip (s1 := ?_) ?_ ?_ ?_
      rotate_left
      · simp [a, b, e, d, f, g, i, j, m, k, q, o, u, v]; done
      · simp [a, b, e, d, f, g, i, j, m, k, q, o, u, v]; rfl
      refine regv_skip (s1 := ?_) ?_ ?_ ?_
      rotate_left
      · simp [a, b, e, d, f, g, i, j, m, k, q, o, u, v]; done
      · simp [a, b, e, d, f, g, i, j, m, k, q, o, u, v]; rfl
      iterate 2
        refine regv_pure (s1 := ?_) rfl rfl ?_ ?_ ?_
        rotate_left
        · simp [a, b, e, d, f, g, i, j, m, k, q, o, u, v]; rfl
        · first | (simp [a, b, e, d, f, g, i, j, m, k, q, o, u, v] <;> omega) | (have hq := v; simp at hq; simp [a, b, e, d, f, g, i, j, m, k, q, o, u, v, hq]; done) | skip
      refine regv_skip (s1 := ?_) ?_ ?_ ?_
      rotate_left
      · simp [a, b, e, d, f, g, i, j, m, k, q, o, u, v]; done
      · simp [a, b, e, d, f, g, i, j, m, k, q, o, u, v]; rfl
      refine regv_skip (s1 := ?_) ?_ ?_ ?_
      rotate_left
      · simp [a, b, e, d, f, g, i, j, m, k, q, o, u, v]; done
      · simp [a, b, e, d, f, g, i, j, m, k, q, o, u, v]; rfl
      refine regv_skip (s1 := ?_) ?_ ?_ ?_
      rotate_left
      · simp [a, b, e, d, f, g, i, j, m, k, q, o, u, v]; done
      · simp [a, b, e, d, f, g, i, j, m, k, q, o, u, v]; rfl
      refine regv_skip (s1 := ?_) ?_ ?_ ?_
      rotate_left
      · simp [a, b, e, d, f, g, i, j, m, k, q, o, u, v]; done
      · simp [a, b, e, d, f, g, i, j, m, k, q, o, u, v]; rfl
      iterate 2
        refine regv_pure (s1 := ?_) rfl rfl ?_ ?_ ?_
        rotate_left
        · simp [a, b, e, d, f, g, i, j, m, k, q, o, u, v]; rfl
        · first | (simp [a, b, e, d, f, g, i, j, m, k, q, o, u, v] <;> omega) | (have hq := v; simp at hq; simp [a, b, e, d, f, g, i, j, m, k, q, o, u, v, hq]; done) | skip
      refine regv_skip (s1 := ?_) ?_ ?_ ?_
      rotate_left
      · simp [a, b, e, d, f, g, i, j, m, k, q, o, u, v]; done
      · simp [a, b, e, d, f, g, i, j, m, k, q, o, u, v]; rfl
      refine regv_skip (s1 := ?_) ?_ ?_ ?_
      rotate_left
      · simp [a, b, e, d, f, g, i, j, m, k, q, o, u, v]; done
      · simp [a, b, e, d, f, g, i, j, m, k, q, o, u, v]; rfl
      refine regv_skip (s1 := ?_) ?_ ?_ ?_
      rotate_left
      · simp [a, b, e, d, f, g, i, j, m, k, q, o, u, v]; done
      · simp [a, b, e, d, f, g, i, j, m, k, q, o, u, v]; rfl
      refine regv_skip (s1 := ?_) ?_ ?_ ?_
      rotate_left
      · simp [a, b, e, d, f, g, i, j, m, k, q, o, u, v]; done
      · simp [a, b, e, d, f, g, i, j, m, k, q, o, u, v]; rfl
      iterate 2
        refine regv_pure (s1 := ?_) rfl rfl ?_ ?_ ?_
        rotate_left
        · simp [a, b, e, d, f, g, i, j, m, k, q, o, u, v]; rfl
        · first | (simp [a, b, e, d, f, g, i, j, m, k, q, o, u, v] <;> omega) | (have hq := v; simp at hq; simp [a, b, e, d, f, g, i, j, m, k, q, o, u, v, hq]; done) | skip
      refine regv_skip (s1 := ?_) ?_ ?_ ?_
      rotate_left
      · simp [a, b, e, d, f, g, i, j, m, k, q, o, u, v]; done
      · simp [a, b, e, d, f, g, i, j, m, k, q, o, u, v]; rfl
      refine regv_skip (s1 := ?_) ?_ ?_ ?_
      rotate_left
      · simp [a, b, e, d, f, g, i, j, m, k, q, o, u, v]; done
      · simp [a, b, e, d, f, g, i, j, m, k, q, o, u, v]; rfl
      iterate 2
        refine regv_pure (s1 := ?_) rfl rfl ?_ ?_ ?_
        rotate_left
        · simp [a, b, e, d, f, g, i, j, m, k, q, o, u, v]; rfl
        · first | (simp [a, b, e, d, f, g, i, j, m, k, q, o, u, v] <;> omega) | (have hq := v; simp at hq; simp [a, b, e, d, f, g, i, j, m, k, q, o, u, v, hq]; done) | skip
      refine regv_skip (s1 := ?_) ?_ ?_ ?_
      rotate_left
      · simp [a, b, e, d, f, g, i, j, m, k, q, o, u, v]; done
      · simp [a, b, e, d, f, g, i, j, m, k, q, o, u, v]; rfl
      refine regv_skip (s1 := ?_) ?_ ?_ ?_
      rotate_left
      · simp [a, b, e, d, f, g, i, j, m, k, q, o, u, v]; done
      · simp [a, b, e, d, f, g, i, j, m, k, q, o, u, v]; rfl
      iterate 2
        refine regv_pure (s1 := ?_) rfl rfl ?_ ?_ ?_
        rotate_left
        · simp [a, b, e, d, f, g, i, j, m, k, q, o, u, v]; rfl
        · first | (simp [a, b, e, d, f, g, i, j, m, k, q, o, u, v] <;> omega) | (have hq := v; simp at hq; simp [a, b, e, d, f, g, i, j, m, k, q, o, u, v, hq]; done) | skip
      refine regv_skip (s1 := ?_) ?_ ?_ ?_
      rotate_left
      · simp [a, b, e, d, f, g, i, j, m, k, q, o, u, v]; done
      · simp [a, b, e, d, f, g, i, j, m, k, q, o, u, v]; rfl
      refine regv_skip (s1 := ?_) ?_ ?_ ?_
      rotate_left
      · simp [a, b, e, d, f, g, i, j, m, k, q, o, u, v]; done
      · simp [a, b, e, d, f, g, i, j, m, k, q, o, u, v]; rfl
      refine regv_skip (s1 := ?_) ?_ ?_ ?_
      rotate_left
      · simp [a, b, e, d, f, g, i, j, m, k, q, o, u, v]; done
      · simp [a, b, e, d, f, g, i, j, m, k, q, o, u, v]; rfl
      refine regv_skip (s1 := ?_) ?_ ?_ ?_
      rotate_left
      · simp [a, b, e, d, f, g, i, j, m, k, q, o, u, v]; done
      · simp [a, b, e, d, f, g, i, j, m, k, q, o, u, v]; rfl
      iterate 2
        refine regv_pure (s1 := ?_) rfl rfl ?_ ?_ ?_
        rotate_left
        · simp [a, b, e, d, f, g, i, j, m, k, q, o, u, v]; rfl
        · first | (simp [a, b, e, d, f, g, i, j, m, k, q, o, u, v] <;> omega) | (have hq := v; simp at hq; simp [a, b, e, d, f, g, i, j, m, k, q, o, u, v, hq]; done) | skip
      refine regv_skip (s1 := ?_) ?_ ?_ ?_
      rotate_left
      · simp [a, b, e, d, f, g, i, j, m, k, q, o, u, v]; done
      · simp [a, b, e, d, f, g, i, j, m, k, q, o, u, v]; rfl
      refine regv_skip (s1 := ?_) ?_ ?_ ?_
      rotate_left
      · simp [a, b, e, d, f, g, i, j, m, k, q, o, u, v]; done
      · simp [a, b, e, d, f, g, i, j, m, k, q, o, u, v]; rfl
      refine regv_skip (s1 := ?_) ?_ ?_ ?_
      rotate_left
      · simp [a, b, e, d, f, g, i, j, m, k, q, o, u, v]; done
      · simp [a, b, e, d, f, g, i, j, m, k, q, o, u, v]; rfl
      refine regv_skip (s1 := ?_) ?_ ?_ ?_
      rotate_left
      · simp [a, b, e, d, f, g, i, j, m, k, q, o, u, v]; done
      · simp [a, b, e, d, f, g, i, j, m, k, q, o, u, v]; rfl
      refine regv_skip (s1 := ?_) ?_ ?_ ?_
      rotate_left
      · simp [a, b, e, d, f, g, i, j, m, k, q, o, u, v]; done
      · simp [a, b, e, d, f, g, i, j, m, k, q, o, u, v]; rfl
      iterate 2
        refine regv_pure (s1 := ?_) rfl rfl ?_ ?_ ?_
        rotate_left
        · simp [a, b, e, d, f, g, i, j, m, k, q, o, u, v]; rfl
        · first | (simp [a, b, e, d, f, g, i, j, m, k, q, o, u, v] <;> omega) | (have hq := v; simp at hq; simp [a, b, e, d, f, g, i, j, m, k, q, o, u, v, hq]; done) | skip
      refine regv_nil ?_
      cases h
      refine Wp.ret (endQ_ret0 rfl ?_)
      repeat' first | exact All2.nil | refine All2.cons ?_ ?_ | refine AvLe.tups ?_ | refine AvLe.aggs ?_
      all_goals first
        | (exact AvLe.refl _ rfl)
        | (exact AvLe.nil _)
        | (exact AvLe.znil _)
        | (exact AvLe.ghost _ rfl)
        | (exact AvLe.zghost _ rfl)
        | (exact AvLe.sl' rfl (by simp [a, b, e, d, f, g, i, j, m, k, q, o, u, v]; done) (by simp [a, b, e, d, f, g, i, j, m, k, q, o, u, v]; done))
        | (exact AvLe.frz' rfl rfl rfl (by simp [a, b, e, d, f, g, i, j, m, k, q, o, u, v]; done) (by simp [a, b, e, d, f, g, i, j, m, k, q, o, u, v]; done) (by simp [a, b, e, d, f, g, i, j, m, k, q, o, u, v]; done))
        | (exact AvLe.list' (by simp [a, b, e, d, f, g, i, j, m, k, q, o, u, v]; done) (by simp [a, b, e, d, f, g, i, j, m, k, q, o, u, v]; done))
        | (exact AvLe.eq (by simp [a, b, e, d, f, g, i, j, m, k, q, o, u, v]; done) rfl)
    · rw [v, if_pos rfl] at h
      refine regv_pure (s1 := ?_) rfl ?_ ?_ ?_ ?_
      rotate_left
      · simp [a, b, e, d, f, g, i, j, m, k, q, o, u, v]; done
      · simp [a, b, e, d, f, g, i, j, m, k, q, o, u, v]; rfl
      · first | (simp [a, b, e, d, f, g, i, j, m, k, q, o, u, v] <;> omega) | (have hq := v; simp at hq; simp [a, b, e, d, f, g, i, j, m, k, q, o, u, v, hq]; done) | skip
      refine regv_pure (s1 := ?_) rfl ?_ ?_ ?_ ?_
      rotate_left
      · simp [a, b, e, d, f, g, i, j, m, k, q, o, u, v]; done
      · simp [a, b, e, d, f, g, i, j, m, k, q, o, u, v]; rfl
      · first | (simp [a, b, e, d, f, g, i, j, m, k, q, o, u, v] <;> omega) | (have hq := v; simp at hq; simp [a, b, e, d, f, g, i, j, m, k, q, o, u, v, hq]; done) | skip
      refine regv_pure (s1 := ?_) rfl ?_ ?_ ?_ ?_
      rotate_left
      · simp [a, b, e, d, f, g, i, j, m, k, q, o, u, v]; done
      · simp [a, b, e, d, f, g, i, j, m, k, q, o, u, v]; rfl
      · first | (simp [a, b, e, d, f, g, i, j, m, k, q, o, u, v] <;> omega) | (have hq := v; simp at hq; simp [a, b, e, d, f, g, i, j, m, k, q, o, u, v, hq]; done) | skip
      refine regv_pure (s1 := ?_) rfl ?_ ?_ ?_ ?_
      rotate_left
      · simp [a, b, e, d, f, g, i, j, m, k, q, o, u, v]; done
      · simp [a, b, e, d, f, g, i, j, m, k, q, o, u, v]; rfl
      · first | (simp [a, b, e, d, f, g, i, j, m, k, q, o, u, v] <;> omega) | (have hq := v; simp at hq; simp [a, b, e, d, f, g, i, j, m, k, q, o, u, v, hq]; done) | skip
      iterate 2
        refine regv_pure (s1 := ?_) rfl rfl ?_ ?_ ?_
        rotate_left
        · simp [a, b, e, d, f, g, i, j, m, k, q, o, u, v]; rfl
        · first | (simp [a, b, e, d, f, g, i, j, m, k, q, o, u, v] <;> omega) | (have hq := v; simp at hq; simp [a, b, e, d, f, g, i, j, m, k, q, o, u, v, hq]; done) | skip
      cases w : ((bd.Q.length : Int) == 1)
      · rw [w, if_neg (by simp)] at h
        refine regv_skip (s1 := ?_) ?_ ?_ ?_
        rotate_left
        · simp [a, b, e, d, f, g, i, j, m, k, q, o, u, v, w]; done
        · simp [a, b, e, d, f, g, i, j, m, k, q, o, u, v, w]; rfl
        refine regv_skip (s1 := ?_) ?_ ?_ ?_
        rotate_left
        · simp [a, b, e, d, f, g, i, j, m, k, q, o, u, v, w]; done
        · simp [a, b, e, d, f, g, i, j, m, k, q, o, u, v, w]; rfl
        refine regv_skip (s1 := ?_) ?_ ?_ ?_
        rotate_left
        · simp [a, b, e, d, f, g, i, j, m, k, q, o, u, v, w]; done
        · simp [a, b, e, d, f, g, i, j, m, k, q, o, u, v, w]; rfl
        refine regv_skip (s1 := ?_) ?_ ?_ ?_
        rotate_left
        · simp [a, b, e, d, f, g, i, j, m, k, q, o, u, v, w]; done
        · simp [a, b, e, d, f, g, i, j, m, k, q, o, u, v, w]; rfl
        iterate 2
          refine regv_pure (s1 := ?_) rfl rfl ?_ ?_ ?_
          rotate_left
          · simp [a, b, e, d, f, g, i, j, m, k, q, o, u, v, w]; rfl
          · first | (simp [a, b, e, d, f, g, i, j, m, k, q, o, u, v, w] <;> omega) | (have hq := w; simp at hq; simp [a, b, e, d, f, g, i, j, m, k, q, o, u, v, w, hq]; done) | skip
        refine regv_skip (s1 := ?_) ?_ ?_ ?_
        rotate_left
        · simp [a, b, e, d, f, g, i, j, m, k, q, o, u, v, w]; done
        · simp [a, b, e, d, f, g, i, j, m, k, q, o, u, v, w]; rfl
        refine regv_skip (s1 := ?_) ?_ ?_ ?_
        rotate_left
        · simp [a, b, e, d, f, g, i, j, m, k, q, o, u, v, w]; done
        · simp [a, b, e, d, f, g, i, j, m, k, q, o, u, v, w]; rfl
        refine regv_skip (s1 := ?_) ?_ ?_ ?_
        rotate_left
        · simp [a, b, e, d, f, g, i, j, m, k, q, o, u, v, w]; done
        · simp [a, b, e, d, f, g, i, j, m, k, q, o, u, v, w]; rfl
        refine regv_skip (s1 := ?_) ?_ ?_ ?_
        rotate_left
        · simp [a, b, e, d, f, g, i, j, m, k, q, o, u, v, w]; done
        · simp [a, b, e, d, f, g, i, j, m, k, q, o, u, v, w]; rfl
        iterate 2
          refine regv_pure (s1 := ?_) rfl rfl ?_ ?_ ?_
          rotate_left
          · simp [a, b, e, d, f, g, i, j, m, k, q, o, u, v, w]; rfl
          · first | (simp [a, b, e, d, f, g, i, j, m, k, q, o, u, v, w] <;> omega) | (have hq := w; simp at hq; simp [a, b, e, d, f, g, i, j, m, k, q, o, u, v, w, hq]; done) | skip
        refine regv_skip (s1 := ?_) ?_ ?_ ?_
        rotate_left
        · simp [a, b, e, d, f, g, i, j, m, k, q, o, u, v, w]; done
        · simp [a, b, e, d, f, g, i, j, m, k, q, o, u, v, w]; rfl
        refine regv_skip (s1 := ?_) ?_ ?_ ?_
        rotate_left
        · simp [a, b, e, d, f, g, i, j, m, k, q, o, u, v, w]; done
        · simp [a, b, e, d, f, g, i, j, m, k, q, o, u, v, w]; rfl
        refine regv_skip (s1 := ?_) ?_ ?_ ?_
        rotate_left
        · simp [a, b, e, d, f, g, i, j, m, k, q, o, u, v, w]; done
        · simp [a, b, e, d, f, g, i, j, m, k, q, o, u, v, w]; rfl
        refine regv_skip (s1 := ?_) ?_ ?_ ?_
        rotate_left
        · simp [a, b, e, d, f, g, i, j, m, k, q, o, u, v, w]; done
        · simp [a, b, e, d, f, g, i, j, m, k, q, o, u, v, w]; rfl
        iterate 2
          refine regv_pure (s1 := ?_) rfl rfl ?_ ?_ ?_
          rotate_left
          · simp [a, b, e, d, f, g, i, j, m, k, q, o, u, v, w]; rfl
          · first | (simp [a, b, e, d, f, g, i, j, m, k, q, o, u, v, w] <;> omega) | (have hq := w; simp at hq; simp [a, b, e, d, f, g, i, j, m, k, q, o, u, v, w, hq]; done) | skip
        refine regv_skip (s1 := ?_) ?_ ?_ ?_
        rotate_left
        · simp [a, b, e, d, f, g, i, j, m, k, q, o, u, v, w]; done
        · simp [a, b, e, d, f, g, i, j, m, k, q, o, u, v, w]; rfl
        refine regv_skip (s1 := ?_) ?_ ?_ ?_
        rotate_left
        · simp [a, b, e, d, f, g, i, j, m, k, q, o, u, v, w]; done
        · simp [a, b, e, d, f, g, i, j, m, k, q, o, u, v, w]; rfl
        iterate 2
          refine regv_pure (s1 := ?_) rfl rfl ?_ ?_ ?_
          rotate_left
          · simp [a, b, e, d, f, g, i, j, m, k, q, o, u, v, w]; rfl
          · first | (simp [a, b, e, d, f, g, i, j, m, k, q, o, u, v, w] <;> omega) | (have hq := w; simp at hq; simp [a, b, e, d, f, g, i, j, m, k, q, o, u, v, w, hq]; done) | skip
        refine regv_skip (s1 := ?_) ?_ ?_ ?_
        rotate_left
        · simp [a, b, e, d, f, g, i, j, m, k, q, o, u, v, w]; done
        · simp [a, b, e, d, f, g, i, j, m, k, q, o, u, v, w]; rfl
        refine regv_skip (s1 := ?_) ?_ ?_ ?_
        rotate_left
        · simp [a, b, e, d, f, g, i, j, m, k, q, o, u, v, w]; done
        · simp [a, b, e, d, f, g, i, j, m, k, q, o, u, v, w]; rfl
        iterate 2
          refine regv_pure (s1 := ?_) rfl rfl ?_ ?_ ?_
          rotate_left
          · simp [a, b, e, d, f, g, i, j, m, k, q, o, u, v, w]; rfl
          · first | (simp [a, b, e, d, f, g, i, j, m, k, q, o, u, v, w] <;> omega) | (have hq := w; simp at hq; simp [a, b, e, d, f, g, i, j, m, k, q, o, u, v, w, hq]; done) | skip
        refine regv_skip (s1 := ?_) ?_ ?_ ?_
        rotate_left
        · simp [a, b, e, d, f, g, i, j, m, k, q, o, u, v, w]; done
        · simp [a, b, e, d, f, g, i, j, m, k, q, o, u, v, w]; rfl
        refine regv_skip (s1 := ?_) ?_ ?_ ?_
        rotate_left
        · simp [a, b, e, d, f, g, i, j, m, k, q, o, u, v, w]; done
        · simp [a, b, e, d, f, g, i, j, m, k, q, o, u, v, w]; rfl
        refine regv_skip (s1 := ?_) ?_ ?_ ?_
        rotate_left
        · simp [a, b, e, d, f, g, i, j, m, k, q, o, u, v, w]; done
        · simp [a, b, e, d, f, g, i, j, m, k, q, o, u, v, w]; rfl
        refine regv_skip (s1 := ?_) ?_ ?_ ?_
        rotate_left
        · simp [a, b, e, d, f, g, i, j, m, k, q, o, u, v, w]; done
        · simp [a, b, e, d, f, g, i, j, m, k, q, o, u, v, w]; rfl
        iterate 2
          refine regv_pure (s1 := ?_) rfl rfl ?_ ?_ ?_
          rotate_left
          · simp [a, b, e, d, f, g, i, j, m, k, q, o, u, v, w]; rfl
          · first | (simp [a, b, e, d, f, g, i, j, m, k, q, o, u, v, w] <;> omega) | (have hq := w; simp at hq; simp [a, b, e, d, f, g, i, j, m, k, q, o, u, v, w, hq]; done) | skip
        refine regv_skip (s1 := ?_) ?_ ?_ ?_
        rotate_left
        · simp [a, b, e, d, f, g, i, j, m, k, q, o, u, v, w]; done
        · simp [a, b, e, d, f, g, i, j, m, k, q, o, u, v, w]; rfl
        refine regv_skip (s1 := ?_) ?_ ?_ ?_
        rotate_left
        · simp [a, b, e, d, f, g, i, j, m, k, q, o, u, v, w]; done
        · simp [a, b, e, d, f, g, i, j, m, k, q, o, u, v, w]; rfl
        refine regv_skip (s1 := ?_) ?_ ?_ ?_
        rotate_left
        · simp [a, b, e, d, f, g, i, j, m, k, q, o, u, v, w]; done
        · simp [a, b, e, d, f, g, i, j, m, k, q, o, u, v, w]; rfl
        refine regv_skip (s1 := ?_) ?_ ?_ ?_
        rotate_left
        · simp [a, b, e, d, f, g, i, j, m, k, q, o, u, v, w]; done
        · simp [a, b, e, d, f, g, i, j, m, k, q, o, u, v, w]; rfl
        refine regv_skip (s1 := ?_) ?_ ?_ ?_
        rotate_left
        · simp [a, b, e, d, f, g, i, j, m, k, q, o, u, v, w]; done
        · simp [a, b, e, d, f, g, i, j, m, k, q, o, u, v, w]; rfl
        iterate 2
          refine regv_pure (s1 := ?_) rfl rfl ?_ ?_ ?_
          rotate_left
          · simp [a, b, e, d, f, g, i, j, m, k, q, o, u, v, w]; rfl
          · first | (simp [a, b, e, d, f, g, i, j, m, k, q, o, u, v, w] <;> omega) | (have hq := w; simp at hq; simp [a, b, e, d, f, g, i, j, m, k, q, o, u, v, w, hq]; done) | skip
        refine regv_nil ?_
        cases h
        refine Wp.ret (endQ_ret0 rfl ?_)
        repeat' first | exact All2.nil | refine All2.cons ?_ ?_ | refine AvLe.tups ?_ | refine AvLe.aggs ?_
        all_goals first
          | (exact AvLe.refl _ rfl)
          | (exact AvLe.nil _)
          | (exact AvLe.znil _)
          | (exact AvLe.ghost _ rfl)
          | (exact AvLe.zghost _ rfl)
          | (exact AvLe.sl' rfl (by simp [a, b, e, d, f, g, i, j, m, k, q, o, u, v, w]; done) (by simp [a, b, e, d, f, g, i, j, m, k, q, o, u, v, w]; done))
          | (exact AvLe.frz' rfl rfl rfl (by simp [a, b, e, d, f, g, i, j, m, k, q, o, u, v, w]; done) (by simp [a, b, e, d, f, g, i, j, m, k, q, o, u, v, w]; done) (by simp [a, b, e, d, f, g, i, j, m, k, q, o, u, v, w]; done))
          | (exact AvLe.list' (by simp [a, b, e, d, f, g, i, j, m, k, q, o, u, v, w]; done) (by simp [a, b, e, d, f, g, i, j, m, k, q, o, u, v, w]; done))
          | (exact AvLe.eq (by simp [a, b, e, d, f, g, i, j, m, k, q, o, u, v, w]; done) rfl)
      · rw [w, if_pos rfl] at h
        refine regv_pure (s1 := ?_) rfl ?_ ?_ ?_ ?_
        rotate_left
        · simp [a, b, e, d, f, g, i, j, m, k, q, o, u, v, w]; done
        · simp [a, b, e, d, f, g, i, j, m, k, q, o, u, v, w]; rfl
        · first | (simp [a, b, e, d, f, g, i, j, m, k, q, o, u, v, w] <;> omega) | (have hq := w; simp at hq; simp [a, b, e, d, f, g, i, j, m, k, q, o, u, v, w, hq]; done) | skip
        refine regv_pure (s1 := ?_) rfl ?_ ?_ ?_ ?_
        rotate_left
        · simp [a, b, e, d, f, g, i, j, m, k, q, o, u, v, w]; done
        · simp [a, b, e, d, f, g, i, j, m, k, q, o, u, v, w]; rfl
        · first | (simp [a, b, e, d, f, g, i, j, m, k, q, o, u, v, w] <;> omega) | (have hq := w; simp at hq; simp [a, b, e, d, f, g, i, j, m, k, q, o, u, v, w, hq]; done) | skip
        obtain ⟨bu, bg, h⟩ := obind h
        obtain ⟨ab, aa, z⟩ := atI_some bg
        try simp [a, b, e, d, f, g, i, j, m, k, q, o, u, v, w] at aa
        try simp only [Int.toNat_natCast, Int.reduceToNat, Nat.zero_add, Nat.add_zero] at z
        have y := getElem_of z
        refine regv_pure (s1 := ?_) rfl ?_ ?_ ?_ ?_
        rotate_left
        · simp [a, b, e, d, f, g, i, j, m, k, q, o, u, v, w, ab, aa, z, y]; done
        · simp [a, b, e, d, f, g, i, j, m, k, q, o, u, v, w, ab, aa, z, y]; rfl
        · first | (simp [a, b, e, d, f, g, i, j, m, k, q, o, u, v, w, ab, aa, z, y] <;> omega) | (have hq := y; simp at hq; simp [a, b, e, d, f, g, i, j, m, k, q, o, u, v, w, ab, aa, z, y, hq]; done) | skip
        refine regv_pure (s1 := ?_) rfl ?_ ?_ ?_ ?_
        rotate_left
        · simp [a, b, e, d, f, g, i, j, m, k, q, o, u, v, w, ab, aa, z, y]; done
        · simp [a, b, e, d, f, g, i, j, m, k, q, o, u, v, w, ab, aa, z, y]; rfl
        · first | (simp [a, b, e, d, f, g, i, j, m, k, q, o, u, v, w, ab, aa, z, y] <;> omega) | (have hq := y; simp at hq; simp [a, b, e, d, f, g, i, j, m, k, q, o, u, v, w, ab, aa, z, y, hq]; done) | skip
        iterate 2
          refine regv_pure (s1 := ?_) rfl rfl ?_ ?_ ?_
          rotate_left
          · simp [a, b, e, d, f, g, i, j, m, k, q, o, u, v, w, ab, aa, z, y]; rfl
          · first | (simp [a, b, e, d, f, g, i, j, m, k, q, o, u, v, w, ab, aa, z, y] <;> omega) | (have hq := y; simp at hq; simp [a, b, e, d, f, g, i, j, m, k, q, o, u, v, w, ab, aa, z, y, hq]; done) | skip
        cases ac : bu
        · rw [ac, if_neg (by simp)] at h
          refine regv_skip (s1 := ?_) ?_ ?_ ?_
          rotate_left
          · simp [a, b, e, d, f, g, i, j, m, k, q, o, u, v, w, ab, aa, z, y, ac]; done
          · simp [a, b, e, d, f, g, i, j, m, k, q, o, u, v, w, ab, aa, z, y, ac]; rfl
          refine regv_skip (s1 := ?_) ?_ ?_ ?_
          rotate_left
          · simp [a, b, e, d, f, g, i, j, m, k, q, o, u, v, w, ab, aa, z, y, ac]; done
          · simp [a, b, e, d, f, g, i, j, m, k, q, o, u, v, w, ab, aa, z, y, ac]; rfl
          refine regv_skip (s1 := ?_) ?_ ?_ ?_
          rotate_left
          · simp [a, b, e, d, f, g, i, j, m, k, q, o, u, v, w, ab, aa, z, y, ac]; done
          · simp [a, b, e, d, f, g, i, j, m, k, q, o, u, v, w, ab, aa, z, y, ac]; rfl
          refine regv_skip (s1 := ?_) ?_ ?_ ?_
          rotate_left
          · simp [a, b, e, d, f, g, i, j, m, k, q, o, u, v, w, ab, aa, z, y, ac]; done
          · simp [a, b, e, d, f, g, i, j, m, k, q, o, u, v, w, ab, aa, z, y, ac]; rfl
          iterate 2
            refine regv_pure (s1 := ?_) rfl rfl ?_ ?_ ?_
            rotate_left
            · simp [a, b, e, d, f, g, i, j, m, k, q, o, u, v, w, ab, aa, z, y, ac]; rfl
            · first | (simp [a, b, e, d, f, g, i, j, m, k, q, o, u, v, w, ab, aa, z, y, ac] <;> omega) | (have hq := ac; simp at hq; simp [a, b, e, d, f, g, i, j, m, k, q, o, u, v, w, ab, aa, z, y, ac, hq]; done) | skip
          refine regv_skip (s1 := ?_) ?_ ?_ ?_
          rotate_left
          · simp [a, b, e, d, f, g, i, j, m, k, q, o, u, v, w, ab, aa, z, y, ac]; done
          · simp [a, b, e, d, f, g, i, j, m, k, q, o, u, v, w, ab, aa, z, y, ac]; rfl
          refine regv_skip (s1 := ?_) ?_ ?_ ?_
          rotate_left
          · simp [a, b, e, d, f, g, i, j, m, k, q, o, u, v, w, ab, aa, z, y, ac]; done
          · simp [a, b, e, d, f, g, i, j, m, k, q, o, u, v, w, ab, aa, z, y, ac]; rfl
          refine regv_skip (s1 := ?_) ?_ ?_ ?_
          rotate_left
          · simp [a, b, e, d, f, g, i, j, m, k, q, o, u, v, w, ab, aa, z, y, ac]; done
          · simp [a, b, e, d, f, g, i, j, m, k, q, o, u, v, w, ab, aa, z, y, ac]; rfl
          refine regv_skip (s1 := ?_) ?_ ?_ ?_
          rotate_left
          · simp [a, b, e, d, f, g, i, j, m, k, q, o, u, v, w, ab, aa, z, y, ac]; done
          · simp [a, b, e, d, f, g, i, j, m, k, q, o, u, v, w, ab, aa, z, y, ac]; rfl
          iterate 2
            refine regv_pure (s1 := ?_) rfl rfl ?_ ?_ ?_
            rotate_left
            · simp [a, b, e, d, f, g, i, j, m, k, q, o, u, v, w, ab, aa, z, y, ac]; rfl
            · first | (simp [a, b, e, d, f, g, i, j, m, k, q, o, u, v, w, ab, aa, z, y, ac] <;> omega) | (have hq := ac; simp at hq; simp [a, b, e, d, f, g, i, j, m, k, q, o, u, v, w, ab, aa, z, y, ac, hq]; done) | skip
          refine regv_skip (s1 := ?_) ?_ ?_ ?_
          rotate_left
          · simp [a, b, e, d, f, g, i, j, m, k, q, o, u, v, w, ab, aa, z, y, ac]; done
          · simp [a, b, e, d, f, g, i, j, m, k, q, o, u, v, w, ab, aa, z, y, ac]; rfl
          refine regv_skip (s1 := ?_) ?_ ?_ ?_
          rotate_left
          · simp [a, b, e, d, f, g, i, j, m, k, q, o, u, v, w, ab, aa, z, y, ac]; done
          · simp [a, b, e, d, f, g, i, j, m, k, q, o, u, v, w, ab, aa, z, y, ac]; rfl
          iterate 2
            refine regv_pure (s1 := ?_) rfl rfl ?_ ?_ ?_
            rotate_left
            · simp [a, b, e, d, f, g, i, j, m, k, q, o, u, v, w, ab, aa, z, y, ac]; rfl
            · first | (simp [a, b, e, d, f, g, i, j, m, k, q, o, u, v, w, ab, aa, z, y, ac] <;> omega) | (have hq := ac; simp at hq; simp [a, b, e, d, f, g, i, j, m, k, q, o, u, v, w, ab, aa, z, y, ac, hq]; done) | skip
          refine regv_skip (s1 := ?_) ?_ ?_ ?_
          rotate_left
          · simp [a, b, e, d, f, g, i, j, m, k, q, o, u, v, w, ab, aa, z, y, ac]; done
          · simp [a, b, e, d, f, g, i, j, m, k, q, o, u, v, w, ab, aa, z, y, ac]; rfl
          refine regv_skip (s1 := ?_) ?_ ?_ ?_
          rotate_left
          · simp [a, b, e, d, f, g, i, j, m, k, q, o, u, v, w, ab, aa, z, y, ac]; done
          · simp [a, b, e, d, f, g, i, j, m, k, q, o, u, v, w, ab, aa, z, y, ac]; rfl
          iterate 2
            refine regv_pure (s1 := ?_) rfl rfl ?_ ?_ ?_
            rotate_left
            · simp [a, b, e, d, f, g, i, j, m, k, q, o, u, v, w, ab, aa, z, y, ac]; rfl
            · first | (simp [a, b, e, d, f, g, i, j, m, k, q, o, u, v, w, ab, aa, z, y, ac] <;> omega) | (have hq := ac; simp at hq; simp [a, b, e, d, f, g, i, j, m, k, q, o, u, v, w, ab, aa, z, y, ac, hq]; done) | skip
          refine regv_skip (s1 := ?_) ?_ ?_ ?_
          rotate_left
          · simp [a, b, e, d, f, g, i, j, m, k, q, o, u, v, w, ab, aa, z, y, ac]; done
          · simp [a, b, e, d, f, g, i, j, m, k, q, o, u, v, w, ab, aa, z, y, ac]; rfl
          refine regv_skip (s1 := ?_) ?_ ?_ ?_
          rotate_left
          · simp [a, b, e, d, f, g, i, j, m, k, q, o, u, v, w, ab, aa, z, y, ac]; done
          · simp [a, b, e, d, f, g, i, j, m, k, q, o, u, v, w, ab, aa, z, y, ac]; rfl
          refine regv_skip (s1 := ?_) ?_ ?_ ?_
          rotate_left
          · simp [a, b, e, d, f, g, i, j, m, k, q, o, u, v, w, ab, aa, z, y, ac]; done
          · simp [a, b, e, d, f, g, i, j, m, k, q, o, u, v, w, ab, aa, z, y, ac]; rfl
          refine regv_skip (s1 := ?_) ?_ ?_ ?_
          rotate_left
          · simp [a, b, e, d, f, g, i, j, m, k, q, o, u, v, w, ab, aa, z, y, ac]; done
          · simp [a, b, e, d, f, g, i, j, m, k, q, o, u, v, w, ab, aa, z, y, ac]; rfl
          iterate 2
            refine regv_pure (s1 := ?_) rfl rfl ?_ ?_ ?_
            rotate_left
            · simp [a, b, e, d, f, g, i, j, m, k, q, o, u, v, w, ab, aa, z, y, ac]; rfl
            · first | (simp [a, b, e, d, f, g, i, j, m, k, q, o, u, v, w, ab, aa, z, y, ac] <;> omega) | (have hq := ac; simp at hq; simp [a, b, e, d, f, g, i, j, m, k, q, o, u, v, w, ab, aa, z, y, ac, hq]; done) | skip
          refine regv_skip (s1 := ?_) ?_ ?_ ?_
          rotate_left
          · simp [a, b, e, d, f, g, i, j, m, k, q, o, u, v, w, ab, aa, z, y, ac]; done
          · simp [a, b, e, d, f, g, i, j, m, k, q, o, u, v, w, ab, aa, z, y, ac]; rfl
          refine regv_skip (s1 := ?_) ?_ ?_ ?_
          rotate_left
          · simp [a, b, e, d, f, g, i, j, m, k, q, o, u, v, w, ab, aa, z, y, ac]; done
          · simp [a, b, e, d, f, g, i, j, m, k, q, o, u, v, w, ab, aa, z, y, ac]; rfl
          refine regv_skip (s1 := ?_) ?_ ?_ ?_
          rotate_left
          · simp [a, b, e, d, f, g, i, j, m, k, q, o, u, v, w, ab, aa, z, y, ac]; done
          · simp [a, b, e, d, f, g, i, j, m, k, q, o, u, v, w, ab, aa, z, y, ac]; rfl
          refine regv_skip (s1 := ?_) ?_ ?_ ?_
          rotate_left
          · simp [a, b, e, d, f, g, i, j, m, k, q, o, u, v, w, ab, aa, z, y, ac]; done
          · simp [a, b, e, d, f, g, i, j, m, k, q, o, u, v, w, ab, aa, z, y, ac]; rfl
          refine regv_skip (s1 := ?_) ?_ ?_ ?_
          rotate_left
          · simp [a, b, e, d, f, g, i, j, m, k, q, o, u, v, w, ab, aa, z, y, ac]; done
          · simp [a, b, e, d, f, g, i, j, m, k, q, o, u, v, w, ab, aa, z, y, ac]; rfl
          iterate 2
            refine regv_pure (s1 := ?_) rfl rfl ?_ ?_ ?_
            rotate_left
            · simp [a, b, e, d, f, g, i, j, m, k, q, o, u, v, w, ab, aa, z, y, ac]; rfl
            · first | (simp [a, b, e, d, f, g, i, j, m, k, q, o, u, v, w, ab, aa, z, y, ac] <;> omega) | (have hq := ac; simp at hq; simp [a, b, e, d, f, g, i, j, m, k, q, o, u, v, w, ab, aa, z, y, ac, hq]; done) | skip
          refine regv_nil ?_
          cases h
          refine Wp.ret (endQ_ret0 rfl ?_)
          repeat' first | exact All2.nil | refine All2.cons ?_ ?_ | refine AvLe.tups ?_ | refine AvLe.aggs ?_
          all_goals first
            | (exact AvLe.refl _ rfl)
            | (exact AvLe.nil _)
            | (exact AvLe.znil _)
            | (exact AvLe.ghost _ rfl)
            | (exact AvLe.zghost _ rfl)
            | (exact AvLe.sl' rfl (by simp [a, b, e, d, f, g, i, j, m, k, q, o, u, v, w, ab, aa, z, y, ac]; done) (by simp [a, b, e, d, f, g, i, j, m, k, q, o, u, v, w, ab, aa, z, y, ac]; done))
            | (exact AvLe.frz' rfl rfl rfl (by simp [a, b, e, d, f, g, i, j, m, k, q, o, u, v, w, ab, aa, z, y, ac]; done) (by simp [a, b, e, d, f, g, i, j, m, k, q, o, u, v, w, ab, aa, z, y, ac]; done) (by simp [a, b, e, d, f, g, i, j, m, k, q, o, u, v, w, ab, aa, z, y, ac]; done))
            | (exact AvLe.list' (by simp [a, b, e, d, f, g, i, j, m, k, q, o, u, v, w, ab, aa, z, y, ac]; done) (by simp [a, b, e, d, f, g, i, j, m, k, q, o, u, v, w, ab, aa, z, y, ac]; done))
            | (exact AvLe.eq (by simp [a, b, e, d, f, g, i, j, m, k, q, o, u, v, w, ab, aa, z, y, ac]; done) rfl)
        · rw [ac, if_pos rfl] at h
          refine regv_pure (s1 := ?_) rfl ?_ ?_ ?_ ?_
          rotate_left
          · simp [a, b, e, d, f, g, i, j, m, k, q, o, u, v, w, ab, aa, z, y, ac]; done
          · simp [a, b, e, d, f, g, i, j, m, k, q, o, u, v, w, ab, aa, z, y, ac]; rfl
          · first | (simp [a, b, e, d, f, g, i, j, m, k, q, o, u, v, w, ab, aa, z, y, ac] <;> omega) | (have hq := ac; simp at hq; simp [a, b, e, d, f, g, i, j, m, k, q, o, u, v, w, ab, aa, z, y, ac, hq]; done) | skip
          refine regv_pure (s1 := ?_) rfl ?_ ?_ ?_ ?_
          rotate_left
          · simp [a, b, e, d, f, g, i, j, m, k, q, o, u, v, w, ab, aa, z, y, ac]; done
          · simp [a, b, e, d, f, g, i, j, m, k, q, o, u, v, w, ab, aa, z, y, ac]; rfl
          · first | (simp [a, b, e, d, f, g, i, j, m, k, q, o, u, v, w, ab, aa, z, y, ac] <;> omega) | (have hq := ac; simp at hq; simp [a, b, e, d, f, g, i, j, m, k, q, o, u, v, w, ab, aa, z, y, ac, hq]; done) | skip
          refine regv_pure (s1 := ?_) rfl ?_ ?_ ?_ ?_
          rotate_left
          · simp [a, b, e, d, f, g, i, j, m, k, q, o, u, v, w, ab, aa, z, y, ac]; done
          · simp [a, b, e, d, f, g, i, j, m, k, q, o, u, v, w, ab, aa, z, y, ac]; rfl
          · first | (simp [a, b, e, d, f, g, i, j, m, k, q, o, u, v, w, ab, aa, z, y, ac] <;> omega) | (have hq := ac; simp at hq; simp [a, b, e, d, f, g, i, j, m, k, q, o, u, v, w, ab, aa, z, y, ac, hq]; done) | skip
          refine regv_pure (s1 := ?_) rfl ?_ ?_ ?_ ?_
          rotate_left
          · simp [a, b, e, d, f, g, i, j, m, k, q, o, u, v, w, ab, aa, z, y, ac]; done
          · simp [a, b, e, d, f, g, i, j, m, k, q, o, u, v, w, ab, aa, z, y, ac]; rfl
          · first | (simp [a, b, e, d, f, g, i, j, m, k, q, o, u, v, w, ab, aa, z, y, ac] <;> omega) | (have hq := ac; simp at hq; simp [a, b, e, d, f, g, i, j, m, k, q, o, u, v, w, ab, aa, z, y, ac, hq]; done) | skip
          iterate 2
            refine regv_pure (s1 := ?_) rfl rfl ?_ ?_ ?_
            rotate_left
            · simp [a, b, e, d, f, g, i, j, m, k, q, o, u, v, w, ab, aa, z, y, ac]; rfl
            · first | (simp [a, b, e, d, f, g, i, j, m, k, q, o, u, v, w, ab, aa, z, y, ac] <;> omega) | (have hq := ac; simp at hq; simp [a, b, e, d, f, g, i, j, m, k, q, o, u, v, w, ab, aa, z, y, ac, hq]; done) | skip
          cases ad : ((bd.E.length : Int) == 1)
          · rw [ad, if_neg (by simp)] at h
            refine regv_skip (s1 := ?_) ?_ ?_ ?_
            rotate_left
            · simp [a, b, e, d, f, g, i, j, m, k, q, o, u, v, w, ab, aa, z, y, ac, ad]; done
            · simp [a, b, e, d, f, g, i, j, m, k, q, o, u, v, w, ab, aa, z, y, ac, ad]; rfl
            refine regv_skip (s1 := ?_) ?_ ?_ ?_
            rotate_left
            · simp [a, b, e, d, f, g, i, j, m, k, q, o, u, v, w, ab, aa, z, y, ac, ad]; done
            · simp [a, b, e, d, f, g, i, j, m, k, q, o, u, v, w, ab, aa, z, y, ac, ad]; rfl
            refine regv_skip (s1 := ?_) ?_ ?_ ?_
            rotate_left
            · simp [a, b, e, d, f, g, i, j, m, k, q, o, u, v, w, ab, aa, z, y, ac, ad]; done
            · simp [a, b, e, d, f, g, i, j, m, k, q, o, u, v, w, ab, aa, z, y, ac, ad]; rfl
            refine regv_skip (s1 := ?_) ?_ ?_ ?_
            rotate_left
            · simp [a, b, e, d, f, g, i, j, m, k, q, o, u, v, w, ab, aa, z, y, ac, ad]; done
            · simp [a, b, e, d, f, g, i, j, m, k, q, o, u, v, w, ab, aa, z, y, ac, ad]; rfl
            iterate 2
              refine regv_pure (s1 := ?_) rfl rfl ?_ ?_ ?_
              rotate_left
              · simp [a, b, e, d, f, g, i, j, m, k, q, o, u, v, w, ab, aa, z, y, ac, ad]; rfl
              · first | (simp [a, b, e, d, f, g, i, j, m, k, q, o, u, v, w, ab, aa, z, y, ac, ad] <;> omega) | (have hq := ad; simp at hq; simp [a, b, e, d, f, g, i, j, m, k, q, o, u, v, w, ab, aa, z, y, ac, ad, hq]; done) | skip
            refine regv_skip (s1 := ?_) ?_ ?_ ?_
            rotate_left
            · simp [a, b, e, d, f, g, i, j, m, k, q, o, u, v, w, ab, aa, z, y, ac, ad]; done
            · simp [a, b, e, d, f, g, i, j, m, k, q, o, u, v, w, ab, aa, z, y, ac, ad]; rfl
            refine regv_skip (s1 := ?_) ?_ ?_ ?_
            rotate_left
            · simp [a, b, e, d, f, g, i, j, m, k, q, o, u, v, w, ab, aa, z, y, ac, ad]; done
            · simp [a, b, e, d, f, g, i, j, m, k, q, o, u, v, w, ab, aa, z, y, ac, ad]; rfl
            iterate 2
              refine regv_pure (s1 := ?_) rfl rfl ?_ ?_ ?_
              rotate_left
              · simp [a, b, e, d, f, g, i, j, m, k, q, o, u, v, w, ab, aa, z, y, ac, ad]; rfl
              · first | (simp [a, b, e, d, f, g, i, j, m, k, q, o, u, v, w, ab, aa, z, y, ac, ad] <;> omega) | (have hq := ad; simp at hq; simp [a, b, e, d, f, g, i, j, m, k, q, o, u, v, w, ab, aa, z, y, ac, ad, hq]; done) | skip
            refine regv_skip (s1 := ?_) ?_ ?_ ?_
            rotate_left
            · simp [a, b, e, d, f, g, i, j, m, k, q, o, u, v, w, ab, aa, z, y, ac, ad]; done
            · simp [a, b, e, d, f, g, i, j, m, k, q, o, u, v, w, ab, aa, z, y, ac, ad]; rfl
            refine regv_skip (s1 := ?_) ?_ ?_ ?_
            rotate_left
            · simp [a, b, e, d, f, g, i, j, m, k, q, o, u, v, w, ab, aa, z, y, ac, ad]; done
            · simp [a, b, e, d, f, g, i, j, m, k, q, o, u, v, w, ab, aa, z, y, ac, ad]; rfl
            iterate 2
              refine regv_pure (s1 := ?_) rfl rfl ?_ ?_ ?_
              rotate_left
              · simp [a, b, e, d, f, g, i, j, m, k, q, o, u, v, w, ab, aa, z, y, ac, ad]; rfl
              · first | (simp [a, b, e, d, f, g, i, j, m, k, q, o, u, v, w, ab, aa, z, y, ac, ad] <;> omega) | (have hq := ad; simp at hq; simp [a, b, e, d, f, g, i, j, m, k, q, o, u, v, w, ab, aa, z, y, ac, ad, hq]; done) | skip
            refine regv_skip (s1 := ?_) ?_ ?_ ?_
            rotate_left
            · simp [a, b, e, d, f, g, i, j, m, k, q, o, u, v, w, ab, aa, z, y, ac, ad]; done
            · simp [a, b, e, d, f, g, i, j, m, k, q, o, u, v, w, ab, aa, z, y, ac, ad]; rfl
            refine regv_skip (s1 := ?_) ?_ ?_ ?_
            rotate_left
            · simp [a, b, e, d, f, g, i, j, m, k, q, o, u, v, w, ab, aa, z, y, ac, ad]; done
            · simp [a, b, e, d, f, g, i, j, m, k, q, o, u, v, w, ab, aa, z, y, ac, ad]; rfl
            refine regv_skip (s1 := ?_) ?_ ?_ ?_
            rotate_left
            · simp [a, b, e, d, f, g, i, j, m, k, q, o, u, v, w, ab, aa, z, y, ac, ad]; done
            · simp [a, b, e, d, f, g, i, j, m, k, q, o, u, v, w, ab, aa, z, y, ac, ad]; rfl
            refine regv_skip (s1 := ?_) ?_ ?_ ?_
            rotate_left
            · simp [a, b, e, d, f, g, i, j, m, k, q, o, u, v, w, ab, aa, z, y, ac, ad]; done
            · simp [a, b, e, d, f, g, i, j, m, k, q, o, u, v, w, ab, aa, z, y, ac, ad]; rfl
            iterate 2
              refine regv_pure (s1 := ?_) rfl rfl ?_ ?_ ?_
              rotate_left
              · simp [a, b, e, d, f, g, i, j, m, k, q, o, u, v, w, ab, aa, z, y, ac, ad]; rfl
              · first | (simp [a, b, e, d, f, g, i, j, m, k, q, o, u, v, w, ab, aa, z, y, ac, ad] <;> omega) | (have hq := ad; simp at hq; simp [a, b, e, d, f, g, i, j, m, k, q, o, u, v, w, ab, aa, z, y, ac, ad, hq]; done) | skip
            refine regv_skip (s1 := ?_) ?_ ?_ ?_
            rotate_left
            · simp [a, b, e, d, f, g, i, j, m, k, q, o, u, v, w, ab, aa, z, y, ac, ad]; done
            · simp [a, b, e, d, f, g, i, j, m, k, q, o, u, v, w, ab, aa, z, y, ac, ad]; rfl
            refine regv_skip (s1 := ?_) ?_ ?_ ?_
            rotate_left
            · simp [a, b, e, d, f, g, i, j, m, k, q, o, u, v, w, ab, aa, z, y, ac, ad]; done
            · simp [a, b, e, d, f, g, i, j, m, k, q, o, u, v, w, ab, aa, z, y, ac, ad]; rfl
            refine regv_skip (s1 := ?_) ?_ ?_ ?_
            rotate_left
            · simp [a, b, e, d, f, g, i, j, m, k, q, o, u, v, w, ab, aa, z, y, ac, ad]; done
            · simp [a, b, e, d, f, g, i, j, m, k, q, o, u, v, w, ab, aa, z, y, ac, ad]; rfl
            refine regv_skip (s1 := ?_) ?_ ?_ ?_
            rotate_left
            · simp [a, b, e, d, f, g, i, j, m, k, q, o, u, v, w, ab, aa, z, y, ac, ad]; done
            · simp [a, b, e, d, f, g, i, j, m, k, q, o, u, v, w, ab, aa, z, y, ac, ad]; rfl
            refine regv_skip (s1 := ?_) ?_ ?_ ?_
            rotate_left
            · simp [a, b, e, d, f, g, i, j, m, k, q, o, u, v, w, ab, aa, z, y, ac, ad]; done
            · simp [a, b, e, d, f, g, i, j, m, k, q, o, u, v, w, ab, aa, z, y, ac, ad]; rfl
            iterate 2
              refine regv_pure (s1 := ?_) rfl rfl ?_ ?_ ?_
              rotate_left
              · simp [a, b, e, d, f, g, i, j, m, k, q, o, u, v, w, ab, aa, z, y, ac, ad]; rfl
              · first | (simp [a, b, e, d, f, g, i, j, m, k, q, o, u, v, w, ab, aa, z, y, ac, ad] <;> omega) | (have hq := ad; simp at hq; simp [a, b, e, d, f, g, i, j, m, k, q, o, u, v, w, ab, aa, z, y, ac, ad, hq]; done) | skip
            refine regv_nil ?_
            cases h
            refine Wp.ret (endQ_ret0 rfl ?_)
            repeat' first | exact All2.nil | refine All2.cons ?_ ?_ | refine AvLe.tups ?_ | refine AvLe.aggs ?_
            all_goals first
              | (exact AvLe.refl _ rfl)
              | (exact AvLe.nil _)
              | (exact AvLe.znil _)
              | (exact AvLe.ghost _ rfl)
              | (exact AvLe.zghost _ rfl)
              | (exact AvLe.sl' rfl (by simp [a, b, e, d, f, g, i, j, m, k, q, o, u, v, w, ab, aa, z, y, ac, ad]; done) (by simp [a, b, e, d, f, g, i, j, m, k, q, o, u, v, w, ab, aa, z, y, ac, ad]; done))
              | (exact AvLe.frz' rfl rfl rfl (by simp [a, b, e, d, f, g, i, j, m, k, q, o, u, v, w, ab, aa, z, y, ac, ad]; done) (by simp [a, b, e, d, f, g, i, j, m, k, q, o, u, v, w, ab, aa, z, y, ac, ad]; done) (by simp [a, b, e, d, f, g, i, j, m, k, q, o, u, v, w, ab, aa, z, y, ac, ad]; done))
              | (exact AvLe.list' (by simp [a, b, e, d, f, g, i, j, m, k, q, o, u, v, w, ab, aa, z, y, ac, ad]; done) (by simp [a, b, e, d, f, g, i, j, m, k, q, o, u, v, w, ab, aa, z, y, ac, ad]; done))
              | (exact AvLe.eq (by simp [a, b, e, d, f, g, i, j, m, k, q, o, u, v, w, ab, aa, z, y, ac, ad]; done) rfl)
          · rw [ad, if_pos rfl] at h
            refine regv_pure (s1 := ?_) rfl ?_ ?_ ?_ ?_
            rotate_left
            · simp [a, b, e, d, f, g, i, j, m, k, q, o, u, v, w, ab, aa, z, y, ac, ad]; done
            · simp [a, b, e, d, f, g, i, j, m, k, q, o, u, v, w, ab, aa, z, y, ac, ad]; rfl
            · first | (simp [a, b, e, d, f, g, i, j, m, k, q, o, u, v, w, ab, aa, z, y, ac, ad] <;> omega) | (have hq := ad; simp at hq; simp [a, b, e, d, f, g, i, j, m, k, q, o, u, v, w, ab, aa, z, y, ac, ad, hq]; done) | skip
            refine regv_pure (s1 := ?_) rfl ?_ ?_ ?_ ?_
            rotate_left
            · simp [a, b, e, d, f, g, i, j, m, k, q, o, u, v, w, ab, aa, z, y, ac, ad]; done
            · simp [a, b, e, d, f, g, i, j, m, k, q, o, u, v, w, ab, aa, z, y, ac, ad]; rfl
            · first | (simp [a, b, e, d, f, g, i, j, m, k, q, o, u, v, w, ab, aa, z, y, ac, ad] <;> omega) | (have hq := ad; simp at hq; simp [a, b, e, d, f, g, i, j, m, k, q, o, u, v, w, ab, aa, z, y, ac, ad, hq]; done) | skip
            obtain ⟨bv, bi, h⟩ := obind h
            obtain ⟨ai, ag, af⟩ := atI_some bi
            try simp [a, b, e, d, f, g, i, j, m, k, q, o, u, v, w, ab, aa, z, y, ac, ad] at ag
            try simp only [Int.toNat_natCast, Int.reduceToNat, Nat.zero_add, Nat.add_zero] at af
            have ae := getElem_of af
            refine regv_pure (s1 := ?_) rfl ?_ ?_ ?_ ?_
            rotate_left
            · simp [a, b, e, d, f, g, i, j, m, k, q, o, u, v, w, ab, aa, z, y, ac, ad, ai, ag, af, ae]; done
            · simp [a, b, e, d, f, g, i, j, m, k, q, o, u, v, w, ab, aa, z, y, ac, ad, ai, ag, af, ae]; rfl
            · first | (simp [a, b, e, d, f, g, i, j, m, k, q, o, u, v, w, ab, aa, z, y, ac, ad, ai, ag, af, ae] <;> omega) | (have hq := ae; simp at hq; simp [a, b, e, d, f, g, i, j, m, k, q, o, u, v, w, ab, aa, z, y, ac, ad, ai, ag, af, ae, hq]; done) | skip
            refine regv_pure (s1 := ?_) rfl ?_ ?_ ?_ ?_
            rotate_left
            · simp [a, b, e, d, f, g, i, j, m, k, q, o, u, v, w, ab, aa, z, y, ac, ad, ai, ag, af, ae]; done
            · simp [a, b, e, d, f, g, i, j, m, k, q, o, u, v, w, ab, aa, z, y, ac, ad, ai, ag, af, ae]; rfl
            · first | (simp [a, b, e, d, f, g, i, j, m, k, q, o, u, v, w, ab, aa, z, y, ac, ad, ai, ag, af, ae] <;> omega) | (have hq := ae; simp at hq; simp [a, b, e, d, f, g, i, j, m, k, q, o, u, v, w, ab, aa, z, y, ac, ad, ai, ag, af, ae, hq]; done) | skip
            iterate 2
              refine regv_pure (s1 := ?_) rfl rfl ?_ ?_ ?_
              rotate_left
              · simp [a, b, e, d, f, g, i, j, m, k, q, o, u, v, w, ab, aa, z, y, ac, ad, ai, ag, af, ae]; rfl
              · first | (simp [a, b, e, d, f, g, i, j, m, k, q, o, u, v, w, ab, aa, z, y, ac, ad, ai, ag, af, ae] <;> omega) | (have hq := ae; simp at hq; simp [a, b, e, d, f, g, i, j, m, k, q, o, u, v, w, ab, aa, z, y, ac, ad, ai, ag, af, ae, hq]; done) | skip
            cases aj : bv
            · rw [aj, if_neg (by simp)] at h
              refine regv_skip (s1 := ?_) ?_ ?_ ?_
              rotate_left
              · simp [a, b, e, d, f, g, i, j, m, k, q, o, u, v, w, ab, aa, z, y, ac, ad, ai, ag, af, ae, aj]; done
              · simp [a, b, e, d, f, g, i, j, m, k, q, o, u, v, w, ab, aa, z, y, ac, ad, ai, ag, af, ae, aj]; rfl
              refine regv_skip (s1 := ?_) ?_ ?_ ?_
              rotate_left
              · simp [a, b, e, d, f, g, i, j, m, k, q, o, u, v, w, ab, aa, z, y, ac, ad, ai, ag, af, ae, aj]; done
              · simp [a, b, e, d, f, g, i, j, m, k, q, o, u, v, w, ab, aa, z, y, ac, ad, ai, ag, af, ae, aj]; rfl
              iterate 2
                refine regv_pure (s1 := ?_) rfl rfl ?_ ?_ ?_
                rotate_left
                · simp [a, b, e, d, f, g, i, j, m, k, q, o, u, v, w, ab, aa, z, y, ac, ad, ai, ag, af, ae, aj]; rfl
                · first | (simp [a, b, e, d, f, g, i, j, m, k, q, o, u, v, w, ab, aa, z, y, ac, ad, ai, ag, af, ae, aj] <;> omega) | (have hq := aj; simp at hq; simp [a, b, e, d, f, g, i, j, m, k, q, o, u, v, w, ab, aa, z, y, ac, ad, ai, ag, af, ae, aj, hq]; done) | skip
              refine regv_skip (s1 := ?_) ?_ ?_ ?_
              rotate_left
              · simp [a, b, e, d, f, g, i, j, m, k, q, o, u, v, w, ab, aa, z, y, ac, ad, ai, ag, af, ae, aj]; done
              · simp [a, b, e, d, f, g, i, j, m, k, q, o, u, v, w, ab, aa, z, y, ac, ad, ai, ag, af, ae, aj]; rfl
              refine regv_skip (s1 := ?_) ?_ ?_ ?_
              rotate_left
              · simp [a, b, e, d, f, g, i, j, m, k, q, o, u, v, w, ab, aa, z, y, ac, ad, ai, ag, af, ae, aj]; done
              · simp [a, b, e, d, f, g, i, j, m, k, q, o, u, v, w, ab, aa, z, y, ac, ad, ai, ag, af, ae, aj]; rfl
              iterate 2
                refine regv_pure (s1 := ?_) rfl rfl ?_ ?_ ?_
                rotate_left
                · simp [a, b, e, d, f, g, i, j, m, k, q, o, u, v, w, ab, aa, z, y, ac, ad, ai, ag, af, ae, aj]; rfl
                · first | (simp [a, b, e, d, f, g, i, j, m, k, q, o, u, v, w, ab, aa, z, y, ac, ad, ai, ag, af, ae, aj] <;> omega) | (have hq := aj; simp at hq; simp [a, b, e, d, f, g, i, j, m, k, q, o, u, v, w, ab, aa, z, y, ac, ad, ai, ag, af, ae, aj, hq]; done) | skip
              refine regv_skip (s1 := ?_) ?_ ?_ ?_
              rotate_left
              · simp [a, b, e, d, f, g, i, j, m, k, q, o, u, v, w, ab, aa, z, y, ac, ad, ai, ag, af, ae, aj]; done
              · simp [a, b, e, d, f, g, i, j, m, k, q, o, u, v, w, ab, aa, z, y, ac, ad, ai, ag, af, ae, aj]; rfl
              refine regv_skip (s1 := ?_) ?_ ?_ ?_
              rotate_left
              · simp [a, b, e, d, f, g, i, j, m, k, q, o, u, v, w, ab, aa, z, y, ac, ad, ai, ag, af, ae, aj]; done
              · simp [a, b, e, d, f, g, i, j, m, k, q, o, u, v, w, ab, aa, z, y, ac, ad, ai, ag, af, ae, aj]; rfl
              refine regv_skip (s1 := ?_) ?_ ?_ ?_
              rotate_left
              · simp [a, b, e, d, f, g, i, j, m, k, q, o, u, v, w, ab, aa, z, y, ac, ad, ai, ag, af, ae, aj]; done
              · simp [a, b, e, d, f, g, i, j, m, k, q, o, u, v, w, ab, aa, z, y, ac, ad, ai, ag, af, ae, aj]; rfl
              refine regv_skip (s1 := ?_) ?_ ?_ ?_
              rotate_left
              · simp [a, b, e, d, f, g, i, j, m, k, q, o, u, v, w, ab, aa, z, y, ac, ad, ai, ag, af, ae, aj]; done
              · simp [a, b, e, d, f, g, i, j, m, k, q, o, u, v, w, ab, aa, z, y, ac, ad, ai, ag, af, ae, aj]; rfl
              iterate 2
                refine regv_pure (s1 := ?_) rfl rfl ?_ ?_ ?_
                rotate_left
                · simp [a, b, e, d, f, g, i, j, m, k, q, o, u, v, w, ab, aa, z, y, ac, ad, ai, ag, af, ae, aj]; rfl
                · first | (simp [a, b, e, d, f, g, i, j, m, k, q, o, u, v, w, ab, aa, z, y, ac, ad, ai, ag, af, ae, aj] <;> omega) | (have hq := aj; simp at hq; simp [a, b, e, d, f, g, i, j, m, k, q, o, u, v, w, ab, aa, z, y, ac, ad, ai, ag, af, ae, aj, hq]; done) | skip
              refine regv_skip (s1 := ?_) ?_ ?_ ?_
              rotate_left
              · simp [a, b, e, d, f, g, i, j, m, k, q, o, u, v, w, ab, aa, z, y, ac, ad, ai, ag, af, ae, aj]; done
              · simp [a, b, e, d, f, g, i, j, m, k, q, o, u, v, w, ab, aa, z, y, ac, ad, ai, ag, af, ae, aj]; rfl
              refine regv_skip (s1 := ?_) ?_ ?_ ?_
              rotate_left
              · simp [a, b, e, d, f, g, i, j, m, k, q, o, u, v, w, ab, aa, z, y, ac, ad, ai, ag, af, ae, aj]; done
              · simp [a, b, e, d, f, g, i, j, m, k, q, o, u, v, w, ab, aa, z, y, ac, ad, ai, ag, af, ae, aj]; rfl
              refine regv_skip (s1 := ?_) ?_ ?_ ?_
              rotate_left
              · simp [a, b, e, d, f, g, i, j, m, k, q, o, u, v, w, ab, aa, z, y, ac, ad, ai, ag, af, ae, aj]; done
              · simp [a, b, e, d, f, g, i, j, m, k, q, o, u, v, w, ab, aa, z, y, ac, ad, ai, ag, af, ae, aj]; rfl
              refine regv_skip (s1 := ?_) ?_ ?_ ?_
              rotate_left
              · simp [a, b, e, d, f, g, i, j, m, k, q, o, u, v, w, ab, aa, z, y, ac, ad, ai, ag, af, ae, aj]; done
              · simp [a, b, e, d, f, g, i, j, m, k, q, o, u, v, w, ab, aa, z, y, ac, ad, ai, ag, af, ae, aj]; rfl
              refine regv_skip (s1 := ?_) ?_ ?_ ?_
              rotate_left
              · simp [a, b, e, d, f, g, i, j, m, k, q, o, u, v, w, ab, aa, z, y, ac, ad, ai, ag, af, ae, aj]; done
              · simp [a, b, e, d, f, g, i, j, m, k, q, o, u, v, w, ab, aa, z, y, ac, ad, ai, ag, af, ae, aj]; rfl
              iterate 2
                refine regv_pure (s1 := ?_) rfl rfl ?_ ?_ ?_
                rotate_left
                · simp [a, b, e, d, f, g, i, j, m, k, q, o, u, v, w, ab, aa, z, y, ac, ad, ai, ag, af, ae, aj]; rfl
                · first | (simp [a, b, e, d, f, g, i, j, m, k, q, o, u, v, w, ab, aa, z, y, ac, ad, ai, ag, af, ae, aj] <;> omega) | (have hq := aj; simp at hq; simp [a, b, e, d, f, g, i, j, m, k, q, o, u, v, w, ab, aa, z, y, ac, ad, ai, ag, af, ae, aj, hq]; done) | skip
              refine regv_nil ?_
              cases h
              refine Wp.ret (endQ_ret0 rfl ?_)
              repeat' first | exact All2.nil | refine All2.cons ?_ ?_ | refine AvLe.tups ?_ | refine AvLe.aggs ?_
              all_goals first
                | (exact AvLe.refl _ rfl)
                | (exact AvLe.nil _)
                | (exact AvLe.znil _)
                | (exact AvLe.ghost _ rfl)
                | (exact AvLe.zghost _ rfl)
                | (exact AvLe.sl' rfl (by simp [a, b, e, d, f, g, i, j, m, k, q, o, u, v, w, ab, aa, z, y, ac, ad, ai, ag, af, ae, aj]; done) (by simp [a, b, e, d, f, g, i, j, m, k, q, o, u, v, w, ab, aa, z, y, ac, ad, ai, ag, af, ae, aj]; done))
                | (exact AvLe.frz' rfl rfl rfl (by simp [a, b, e, d, f, g, i, j, m, k, q, o, u, v, w, ab, aa, z, y, ac, ad, ai, ag, af, ae, aj]; done) (by simp [a, b, e, d, f, g, i, j, m, k, q, o, u, v, w, ab, aa, z, y, ac, ad, ai, ag, af, ae, aj]; done) (by simp [a, b, e, d, f, g, i, j, m, k, q, o, u, v, w, ab, aa, z, y, ac, ad, ai, ag, af, ae, aj]; done))
                | (exact AvLe.list' (by simp [a, b, e, d, f, g, i, j, m, k, q, o, u, v, w, ab, aa, z, y, ac, ad, ai, ag, af, ae, aj]; done) (by simp [a, b, e, d, f, g, i, j, m, k, q, o, u, v, w, ab, aa, z, y, ac, ad, ai, ag, af, ae, aj]; done))
                | (exact AvLe.eq (by simp [a, b, e, d, f, g, i, j, m, k, q, o, u, v, w, ab, aa, z, y, ac, ad, ai, ag, af, ae, aj]; done) rfl)
            · rw [aj, if_pos rfl] at h
              refine regv_pure (s1 := ?_) rfl ?_ ?_ ?_ ?_
              rotate_left
              · simp [a, b, e, d, f, g, i, j, m, k, q, o, u, v, w, ab, aa, z, y, ac, ad, ai, ag, af, ae, aj]; done
              · simp [a, b, e, d, f, g, i, j, m, k, q, o, u, v, w, ab, aa, z, y, ac, ad, ai, ag, af, ae, aj]; rfl
              · first | (simp [a, b, e, d, f, g, i, j, m, k, q, o, u, v, w, ab, aa, z, y, ac, ad, ai, ag, af, ae, aj] <;> omega) | (have hq := aj; simp at hq; simp [a, b, e, d, f, g, i, j, m, k, q, o, u, v, w, ab, aa, z, y, ac, ad, ai, ag, af, ae, aj, hq]; done) | skip
              refine regv_pure (s1 := ?_) rfl ?_ ?_ ?_ ?_
              rotate_left
              · simp [a, b, e, d, f, g, i, j, m, k, q, o, u, v, w, ab, aa, z, y, ac, ad, ai, ag, af, ae, aj]; done
              · simp [a, b, e, d, f, g, i, j, m, k, q, o, u, v, w, ab, aa, z, y, ac, ad, ai, ag, af, ae, aj]; rfl
              · first | (simp [a, b, e, d, f, g, i, j, m, k, q, o, u, v, w, ab, aa, z, y, ac, ad, ai, ag, af, ae, aj] <;> omega) | (have hq := aj; simp at hq; simp [a, b, e, d, f, g, i, j, m, k, q, o, u, v, w, ab, aa, z, y, ac, ad, ai, ag, af, ae, aj, hq]; done) | skip
              iterate 2
                refine regv_pure (s1 := ?_) rfl rfl ?_ ?_ ?_
                rotate_left
                · simp [a, b, e, d, f, g, i, j, m, k, q, o, u, v, w, ab, aa, z, y, ac, ad, ai, ag, af, ae, aj]; rfl
                · first | (simp [a, b, e, d, f, g, i, j, m, k, q, o, u, v, w, ab, aa, z, y, ac, ad, ai, ag, af, ae, aj] <;> omega) | (have hq := aj; simp at hq; simp [a, b, e, d, f, g, i, j, m, k, q, o, u, v, w, ab, aa, z, y, ac, ad, ai, ag, af, ae, aj, hq]; done) | skip
              cases ak : (bq == 0)
              · rw [ak, if_neg (by simp)] at h
                refine regv_skip (s1 := ?_) ?_ ?_ ?_
                rotate_left
                · simp [a, b, e, d, f, g, i, j, m, k, q, o, u, v, w, ab, aa, z, y, ac, ad, ai, ag, af, ae, aj, ak]; done
                · simp [a, b, e, d, f, g, i, j, m, k, q, o, u, v, w, ab, aa, z, y, ac, ad, ai, ag, af, ae, aj, ak]; rfl
                refine regv_skip (s1 := ?_) ?_ ?_ ?_
                rotate_left
                · simp [a, b, e, d, f, g, i, j, m, k, q, o, u, v, w, ab, aa, z, y, ac, ad, ai, ag, af, ae, aj, ak]; done
                · simp [a, b, e, d, f, g, i, j, m, k, q, o, u, v, w, ab, aa, z, y, ac, ad, ai, ag, af, ae, aj, ak]; rfl
                iterate 2
                  refine regv_pure (s1 := ?_) rfl rfl ?_ ?_ ?_
                  rotate_left
                  · simp [a, b, e, d, f, g, i, j, m, k, q, o, u, v, w, ab, aa, z, y, ac, ad, ai, ag, af, ae, aj, ak]; rfl
                  · first | (simp [a, b, e, d, f, g, i, j, m, k, q, o, u, v, w, ab, aa, z, y, ac, ad, ai, ag, af, ae, aj, ak] <;> omega) | (have hq := ak; simp at hq; simp [a, b, e, d, f, g, i, j, m, k, q, o, u, v, w, ab, aa, z, y, ac, ad, ai, ag, af, ae, aj, ak, hq]; done) | skip
                refine regv_skip (s1 := ?_) ?_ ?_ ?_
                rotate_left
                · simp [a, b, e, d, f, g, i, j, m, k, q, o, u, v, w, ab, aa, z, y, ac, ad, ai, ag, af, ae, aj, ak]; done
                · simp [a, b, e, d, f, g, i, j, m, k, q, o, u, v, w, ab, aa, z, y, ac, ad, ai, ag, af, ae, aj, ak]; rfl
                refine regv_skip (s1 := ?_) ?_ ?_ ?_
                rotate_left
                · simp [a, b, e, d, f, g, i, j, m, k, q, o, u, v, w, ab, aa, z, y, ac, ad, ai, ag, af, ae, aj, ak]; done
                · simp [a, b, e, d, f, g, i, j, m, k, q, o, u, v, w, ab, aa, z, y, ac, ad, ai, ag, af, ae, aj, ak]; rfl
                refine regv_skip (s1 := ?_) ?_ ?_ ?_
                rotate_left
                · simp [a, b, e, d, f, g, i, j, m, k, q, o, u, v, w, ab, aa, z, y, ac, ad, ai, ag, af, ae, aj, ak]; done
                · simp [a, b, e, d, f, g, i, j, m, k, q, o, u, v, w, ab, aa, z, y, ac, ad, ai, ag, af, ae, aj, ak]; rfl
                refine regv_skip (s1 := ?_) ?_ ?_ ?_
                rotate_left
                · simp [a, b, e, d, f, g, i, j, m, k, q, o, u, v, w, ab, aa, z, y, ac, ad, ai, ag, af, ae, aj, ak]; done
                · simp [a, b, e, d, f, g, i, j, m, k, q, o, u, v, w, ab, aa, z, y, ac, ad, ai, ag, af, ae, aj, ak]; rfl
                iterate 2
                  refine regv_pure (s1 := ?_) rfl rfl ?_ ?_ ?_
                  rotate_left
                  · simp [a, b, e, d, f, g, i, j, m, k, q, o, u, v, w, ab, aa, z, y, ac, ad, ai, ag, af, ae, aj, ak]; rfl
                  · first | (simp [a, b, e, d, f, g, i, j, m, k, q, o, u, v, w, ab, aa, z, y, ac, ad, ai, ag, af, ae, aj, ak] <;> omega) | (have hq := ak; simp at hq; simp [a, b, e, d, f, g, i, j, m, k, q, o, u, v, w, ab, aa, z, y, ac, ad, ai, ag, af, ae, aj, ak, hq]; done) | skip
                refine regv_skip (s1 := ?_) ?_ ?_ ?_
                rotate_left
                · simp [a, b, e, d, f, g, i, j, m, k, q, o, u, v, w, ab, aa, z, y, ac, ad, ai, ag, af, ae, aj, ak]; done
                · simp [a, b, e, d, f, g, i, j, m, k, q, o, u, v, w, ab, aa, z, y, ac, ad, ai, ag, af, ae, aj, ak]; rfl
                refine regv_skip (s1 := ?_) ?_ ?_ ?_
                rotate_left
                · simp [a, b, e, d, f, g, i, j, m, k, q, o, u, v, w, ab, aa, z, y, ac, ad, ai, ag, af, ae, aj, ak]; done
                · simp [a, b, e, d, f, g, i, j, m, k, q, o, u, v, w, ab, aa, z, y, ac, ad, ai, ag, af, ae, aj, ak]; rfl
                refine regv_skip (s1 := ?_) ?_ ?_ ?_
                rotate_left
                · simp [a, b, e, d, f, g, i, j, m, k, q, o, u, v, w, ab, aa, z, y, ac, ad, ai, ag, af, ae, aj, ak]; done
                · simp [a, b, e, d, f, g, i, j, m, k, q, o, u, v, w, ab, aa, z, y, ac, ad, ai, ag, af, ae, aj, ak]; rfl
                refine regv_skip (s1 := ?_) ?_ ?_ ?_
                rotate_left
                · simp [a, b, e, d, f, g, i, j, m, k, q, o, u, v, w, ab, aa, z, y, ac, ad, ai, ag, af, ae, aj, ak]; done
                · simp [a, b, e, d, f, g, i, j, m, k, q, o, u, v, w, ab, aa, z, y, ac, ad, ai, ag, af, ae, aj, ak]; rfl
                refine regv_skip (s1 := ?_) ?_ ?_ ?_
                rotate_left
                · simp [a, b, e, d, f, g, i, j, m, k, q, o, u, v, w, ab, aa, z, y, ac, ad, ai, ag, af, ae, aj, ak]; done
                · simp [a, b, e, d, f, g, i, j, m, k, q, o, u, v, w, ab, aa, z, y, ac, ad, ai, ag, af, ae, aj, ak]; rfl
                iterate 2
                  refine regv_pure (s1 := ?_) rfl rfl ?_ ?_ ?_
                  rotate_left
                  · simp [a, b, e, d, f, g, i, j, m, k, q, o, u, v, w, ab, aa, z, y, ac, ad, ai, ag, af, ae, aj, ak]; rfl
                  · first | (simp [a, b, e, d, f, g, i, j, m, k, q, o, u, v, w, ab, aa, z, y, ac, ad, ai, ag, af, ae, aj, ak] <;> omega) | (have hq := ak; simp at hq; simp [a, b, e, d, f, g, i, j, m, k, q, o, u, v, w, ab, aa, z, y, ac, ad, ai, ag, af, ae, aj, ak, hq]; done) | skip
                refine regv_nil ?_
                cases h
                refine Wp.ret (endQ_ret0 rfl ?_)
                repeat' first | exact All2.nil | refine All2.cons ?_ ?_ | refine AvLe.tups ?_ | refine AvLe.aggs ?_
                all_goals first
                  | (exact AvLe.refl _ rfl)
                  | (exact AvLe.nil _)
                  | (exact AvLe.znil _)
                  | (exact AvLe.ghost _ rfl)
                  | (exact AvLe.zghost _ rfl)
                  | (exact AvLe.sl' rfl (by simp [a, b, e, d, f, g, i, j, m, k, q, o, u, v, w, ab, aa, z, y, ac, ad, ai, ag, af, ae, aj, ak]; done) (by simp [a, b, e, d, f, g, i, j, m, k, q, o, u, v, w, ab, aa, z, y, ac, ad, ai, ag, af, ae, aj, ak]; done))
                  | (exact AvLe.frz' rfl rfl rfl (by simp [a, b, e, d, f, g, i, j, m, k, q, o, u, v, w, ab, aa, z, y, ac, ad, ai, ag, af, ae, aj, ak]; done) (by simp [a, b, e, d, f, g, i, j, m, k, q, o, u, v, w, ab, aa, z, y, ac, ad, ai, ag, af, ae, aj, ak]; done) (by simp [a, b, e, d, f, g, i, j, m, k, q, o, u, v, w, ab, aa, z, y, ac, ad, ai, ag, af, ae, aj, ak]; done))
                  | (exact AvLe.list' (by simp [a, b, e, d, f, g, i, j, m, k, q, o, u, v, w, ab, aa, z, y, ac, ad, ai, ag, af, ae, aj, ak]; done) (by simp [a, b, e, d, f, g, i, j, m, k, q, o, u, v, w, ab, aa, z, y, ac, ad, ai, ag, af, ae, aj, ak]; done))
                  | (exact AvLe.eq (by simp [a, b, e, d, f, g, i, j, m, k, q, o, u, v, w, ab, aa, z, y, ac, ad, ai, ag, af, ae, aj, ak]; done) rfl)
              · rw [ak, if_pos rfl] at h
                refine regv_pure (s1 := ?_) rfl ?_ ?_ ?_ ?_
                rotate_left
                · simp [a, b, e, d, f, g, i, j, m, k, q, o, u, v, w, ab, aa, z, y, ac, ad, ai, ag, af, ae, aj, ak]; done
                · simp [a, b, e, d, f, g, i, j, m, k, q, o, u, v, w, ab, aa, z, y, ac, ad, ai, ag, af, ae, aj, ak]; rfl
                · first | (simp [a, b, e, d, f, g, i, j, m, k, q, o, u, v, w, ab, aa, z, y, ac, ad, ai, ag, af, ae, aj, ak] <;> omega) | (have hq := ak; simp at hq; simp [a, b, e, d, f, g, i, j, m, k, q, o, u, v, w, ab, aa, z, y, ac, ad, ai, ag, af, ae, aj, ak, hq]; done) | skip
                refine regv_pure (s1 := ?_) rfl ?_ ?_ ?_ ?_
                rotate_left
                · simp [a, b, e, d, f, g, i, j, m, k, q, o, u, v, w, ab, aa, z, y, ac, ad, ai, ag, af, ae, aj, ak]; done
                · simp [a, b, e, d, f, g, i, j, m, k, q, o, u, v, w, ab, aa, z, y, ac, ad, ai, ag, af, ae, aj, ak]; rfl
                · first | (simp [a, b, e, d, f, g, i, j, m, k, q, o, u, v, w, ab, aa, z, y, ac, ad, ai, ag, af, ae, aj, ak] <;> omega) | (have hq := ak; simp at hq; simp [a, b, e, d, f, g, i, j, m, k, q, o, u, v, w, ab, aa, z, y, ac, ad, ai, ag, af, ae, aj, ak, hq]; done) | skip
                iterate 2
                  refine regv_pure (s1 := ?_) rfl rfl ?_ ?_ ?_
                  rotate_left
                  · simp [a, b, e, d, f, g, i, j, m, k, q, o, u, v, w, ab, aa, z, y, ac, ad, ai, ag, af, ae, aj, ak]; rfl
                  · first | (simp [a, b, e, d, f, g, i, j, m, k, q, o, u, v, w, ab, aa, z, y, ac, ad, ai, ag, af, ae, aj, ak] <;> omega) | (have hq := ak; simp at hq; simp [a, b, e, d, f, g, i, j, m, k, q, o, u, v, w, ab, aa, z, y, ac, ad, ai, ag, af, ae, aj, ak, hq]; done) | skip
                cases am : (!bp)
                · rw [am, if_neg (by simp)] at h
                  refine regv_skip (s1 := ?_) ?_ ?_ ?_
                  rotate_left
                  · simp [a, b, e, d, f, g, i, j, m, k, q, o, u, v, w, ab, aa, z, y, ac, ad, ai, ag, af, ae, aj, ak, am]; done
                  · simp [a, b, e, d, f, g, i, j, m, k, q, o, u, v, w, ab, aa, z, y, ac, ad, ai, ag, af, ae, aj, ak, am]; rfl
                  refine regv_skip (s1 := ?_) ?_ ?_ ?_
                  rotate_left
                  · simp [a, b, e, d, f, g, i, j, m, k, q, o, u, v, w, ab, aa, z, y, ac, ad, ai, ag, af, ae, aj, ak, am]; done
                  · simp [a, b, e, d, f, g, i, j, m, k, q, o, u, v, w, ab, aa, z, y, ac, ad, ai, ag, af, ae, aj, ak, am]; rfl
                  refine regv_skip (s1 := ?_) ?_ ?_ ?_
                  rotate_left
                  · simp [a, b, e, d, f, g, i, j, m, k, q, o, u, v, w, ab, aa, z, y, ac, ad, ai, ag, af, ae, aj, ak, am]; done
                  · simp [a, b, e, d, f, g, i, j, m, k, q, o, u, v, w, ab, aa, z, y, ac, ad, ai, ag, af, ae, aj, ak, am]; rfl
                  refine regv_skip (s1 := ?_) ?_ ?_ ?_
                  rotate_left
                  · simp [a, b, e, d, f, g, i, j, m, k, q, o, u, v, w, ab, aa, z, y, ac, ad, ai, ag, af, ae, aj, ak, am]; done
                  · simp [a, b, e, d, f, g, i, j, m, k, q, o, u, v, w, ab, aa, z, y, ac, ad, ai, ag, af, ae, aj, ak, am]; rfl
                  iterate 2
                    refine regv_pure (s1 := ?_) rfl rfl ?_ ?_ ?_
                    rotate_left
                    · simp [a, b, e, d, f, g, i, j, m, k, q, o, u, v, w, ab, aa, z, y, ac, ad, ai, ag, af, ae, aj, ak, am]; rfl
                    · first | (simp [a, b, e, d, f, g, i, j, m, k, q, o, u, v, w, ab, aa, z, y, ac, ad, ai, ag, af, ae, aj, ak, am] <;> omega) | (have hq := am; simp at hq; simp [a, b, e, d, f, g, i, j, m, k, q, o, u, v, w, ab, aa, z, y, ac, ad, ai, ag, af, ae, aj, ak, am, hq]; done) | skip
                  refine regv_skip (s1 := ?_) ?_ ?_ ?_
                  rotate_left
                  · simp [a, b, e, d, f, g, i, j, m, k, q, o, u, v, w, ab, aa, z, y, ac, ad, ai, ag, af, ae, aj, ak, am]; done
                  · simp [a, b, e, d, f, g, i, j, m, k, q, o, u, v, w, ab, aa, z, y, ac, ad, ai, ag, af, ae, aj, ak, am]; rfl
                  refine regv_skip (s1 := ?_) ?_ ?_ ?_
                  rotate_left
                  · simp [a, b, e, d, f, g, i, j, m, k, q, o, u, v, w, ab, aa, z, y, ac, ad, ai, ag, af, ae, aj, ak, am]; done
                  · simp [a, b, e, d, f, g, i, j, m, k, q, o, u, v, w, ab, aa, z, y, ac, ad, ai, ag, af, ae, aj, ak, am]; rfl
                  refine regv_skip (s1 := ?_) ?_ ?_ ?_
                  rotate_left
                  · simp [a, b, e, d, f, g, i, j, m, k, q, o, u, v, w, ab, aa, z, y, ac, ad, ai, ag, af, ae, aj, ak, am]; done
                  · simp [a, b, e, d, f, g, i, j, m, k, q, o, u, v, w, ab, aa, z, y, ac, ad, ai, ag, af, ae, aj, ak, am]; rfl
                  refine regv_skip (s1 := ?_) ?_ ?_ ?_
                  rotate_left
                  · simp [a, b, e, d, f, g, i, j, m, k, q, o, u, v, w, ab, aa, z, y, ac, ad, ai, ag, af, ae, aj, ak, am]; done
                  · simp [a, b, e, d, f, g, i, j, m, k, q, o, u, v, w, ab, aa, z, y, ac, ad, ai, ag, af, ae, aj, ak, am]; rfl
                  refine regv_skip (s1 := ?_) ?_ ?_ ?_
                  rotate_left
                  · simp [a, b, e, d, f, g, i, j, m, k, q, o, u, v, w, ab, aa, z, y, ac, ad, ai, ag, af, ae, aj, ak, am]; done
                  · simp [a, b, e, d, f, g, i, j, m, k, q, o, u, v, w, ab, aa, z, y, ac, ad, ai, ag, af, ae, aj, ak, am]; rfl
                  iterate 2
                    refine regv_pure (s1 := ?_) rfl rfl ?_ ?_ ?_
                    rotate_left
                    · simp [a, b, e, d, f, g, i, j, m, k, q, o, u, v, w, ab, aa, z, y, ac, ad, ai, ag, af, ae, aj, ak, am]; rfl
                    · first | (simp [a, b, e, d, f, g, i, j, m, k, q, o, u, v, w, ab, aa, z, y, ac, ad, ai, ag, af, ae, aj, ak, am] <;> omega) | (have hq := am; simp at hq; simp [a, b, e, d, f, g, i, j, m, k, q, o, u, v, w, ab, aa, z, y, ac, ad, ai, ag, af, ae, aj, ak, am, hq]; done) | skip
                  refine regv_nil ?_
                  cases h
                  refine Wp.ret (endQ_ret0 rfl ?_)
                  repeat' first | exact All2.nil | refine All2.cons ?_ ?_ | refine AvLe.tups ?_ | refine AvLe.aggs ?_
                  all_goals first
                    | (exact AvLe.refl _ rfl)
                    | (exact AvLe.nil _)
                    | (exact AvLe.znil _)
                    | (exact AvLe.ghost _ rfl)
                    | (exact AvLe.zghost _ rfl)
                    | (exact AvLe.sl' rfl (by simp [a, b, e, d, f, g, i, j, m, k, q, o, u, v, w, ab, aa, z, y, ac, ad, ai, ag, af, ae, aj, ak, am]; done) (by simp [a, b, e, d, f, g, i, j, m, k, q, o, u, v, w, ab, aa, z, y, ac, ad, ai, ag, af, ae, aj, ak, am]; done))
                    | (exact AvLe.frz' rfl rfl rfl (by simp [a, b, e, d, f, g, i, j, m, k, q, o, u, v, w, ab, aa, z, y, ac, ad, ai, ag, af, ae, aj, ak, am]; done) (by simp [a, b, e, d, f, g, i, j, m, k, q, o, u, v, w, ab, aa, z, y, ac, ad, ai, ag, af, ae, aj, ak, am]; done) (by simp [a, b, e, d, f, g, i, j, m, k, q, o, u, v, w, ab, aa, z, y, ac, ad, ai, ag, af, ae, aj, ak, am]; done))
                    | (exact AvLe.list' (by simp [a, b, e, d, f, g, i, j, m, k, q, o, u, v, w, ab, aa, z, y, ac, ad, ai, ag, af, ae, aj, ak, am]; done) (by simp [a, b, e, d, f, g, i, j, m, k, q, o, u, v, w, ab, aa, z, y, ac, ad, ai, ag, af, ae, aj, ak, am]; done))
                    | (exact AvLe.eq (by simp [a, b, e, d, f, g, i, j, m, k, q, o, u, v, w, ab, aa, z, y, ac, ad, ai, ag, af, ae, aj, ak, am]; done) rfl)
                · rw [am, if_pos rfl] at h
                  refine regv_pure (s1 := ?_) rfl ?_ ?_ ?_ ?_
                  rotate_left
                  · simp [a, b, e, d, f, g, i, j, m, k, q, o, u, v, w, ab, aa, z, y, ac, ad, ai, ag, af, ae, aj, ak, am]; done
                  · simp [a, b, e, d, f, g, i, j, m, k, q, o, u, v, w, ab, aa, z, y, ac, ad, ai, ag, af, ae, aj, ak, am]; rfl
                  · first | (simp [a, b, e, d, f, g, i, j, m, k, q, o, u, v, w, ab, aa, z, y, ac, ad, ai, ag, af, ae, aj, ak, am] <;> omega) | (have hq := am; simp at hq; simp [a, b, e, d, f, g, i, j, m, k, q, o, u, v, w, ab, aa, z, y, ac, ad, ai, ag, af, ae, aj, ak, am, hq]; done) | skip
                  refine regv_pure (s1 := ?_) rfl ?_ ?_ ?_ ?_
                  rotate_left
                  · simp [a, b, e, d, f, g, i, j, m, k, q, o, u, v, w, ab, aa, z, y, ac, ad, ai, ag, af, ae, aj, ak, am]; done
                  · simp [a, b, e, d, f, g, i, j, m, k, q, o, u, v, w, ab, aa, z, y, ac, ad, ai, ag, af, ae, aj, ak, am]; rfl
                  · first | (simp [a, b, e, d, f, g, i, j, m, k, q, o, u, v, w, ab, aa, z, y, ac, ad, ai, ag, af, ae, aj, ak, am] <;> omega) | (have hq := am; simp at hq; simp [a, b, e, d, f, g, i, j, m, k, q, o, u, v, w, ab, aa, z, y, ac, ad, ai, ag, af, ae, aj, ak, am, hq]; done) | skip
                  refine regv_pure (s1 := ?_) rfl ?_ ?_ ?_ ?_
                  rotate_left
                  · simp [a, b, e, d, f, g, i, j, m, k, q, o, u, v, w, ab, aa, z, y, ac, ad, ai, ag, af, ae, aj, ak, am]; done
                  · simp [a, b, e, d, f, g, i, j, m, k, q, o, u, v, w, ab, aa, z, y, ac, ad, ai, ag, af, ae, aj, ak, am]; rfl
                  · first | (simp [a, b, e, d, f, g, i, j, m, k, q, o, u, v, w, ab, aa, z, y, ac, ad, ai, ag, af, ae, aj, ak, am] <;> omega) | (have hq := am; simp at hq; simp [a, b, e, d, f, g, i, j, m, k, q, o, u, v, w, ab, aa, z, y, ac, ad, ai, ag, af, ae, aj, ak, am, hq]; done) | skip
                  refine regv_pure (s1 := ?_) rfl ?_ ?_ ?_ ?_
                  rotate_left
                  · simp [a, b, e, d, f, g, i, j, m, k, q, o, u, v, w, ab, aa, z, y, ac, ad, ai, ag, af, ae, aj, ak, am]; done
                  · simp [a, b, e, d, f, g, i, j, m, k, q, o, u, v, w, ab, aa, z, y, ac, ad, ai, ag, af, ae, aj, ak, am]; rfl
                  · first | (simp [a, b, e, d, f, g, i, j, m, k, q, o, u, v, w, ab, aa, z, y, ac, ad, ai, ag, af, ae, aj, ak, am] <;> omega) | (have hq := am; simp at hq; simp [a, b, e, d, f, g, i, j, m, k, q, o, u, v, w, ab, aa, z, y, ac, ad, ai, ag, af, ae, aj, ak, am, hq]; done) | skip
                  iterate 2
                    refine regv_pure (s1 := ?_) rfl rfl ?_ ?_ ?_
                    rotate_left
                    · simp [a, b, e, d, f, g, i, j, m, k, q, o, u, v, w, ab, aa, z, y, ac, ad, ai, ag, af, ae, aj, ak, am]; rfl
                    · first | (simp [a, b, e, d, f, g, i, j, m, k, q, o, u, v, w, ab, aa, z, y, ac, ad, ai, ag, af, ae, aj, ak, am] <;> omega) | (have hq := am; simp at hq; simp [a, b, e, d, f, g, i, j, m, k, q, o, u, v, w, ab, aa, z, y, ac, ad, ai, ag, af, ae, aj, ak, am, hq]; done) | skip
                  cases ao : ((bo.Q.length : Int) == 1)
                  · rw [ao, if_neg (by simp)] at h
                    refine regv_skip (s1 := ?_) ?_ ?_ ?_
                    rotate_left
                    · simp [a, b, e, d, f, g, i, j, m, k, q, o, u, v, w, ab, aa, z, y, ac, ad, ai, ag, af, ae, aj, ak, am, ao]; done
                    · simp [a, b, e, d, f, g, i, j, m, k, q, o, u, v, w, ab, aa, z, y, ac, ad, ai, ag, af, ae, aj, ak, am, ao]; rfl
                    refine regv_skip (s1 := ?_) ?_ ?_ ?_
                    rotate_left
                    · simp [a, b, e, d, f, g, i, j, m, k, q, o, u, v, w, ab, aa, z, y, ac, ad, ai, ag, af, ae, aj, ak, am, ao]; done
                    · simp [a, b, e, d, f, g, i, j, m, k, q, o, u, v, w, ab, aa, z, y, ac, ad, ai, ag, af, ae, aj, ak, am, ao]; rfl
                    refine regv_skip (s1 := ?_) ?_ ?_ ?_
                    rotate_left
                    · simp [a, b, e, d, f, g, i, j, m, k, q, o, u, v, w, ab, aa, z, y, ac, ad, ai, ag, af, ae, aj, ak, am, ao]; done
                    · simp [a, b, e, d, f, g, i, j, m, k, q, o, u, v, w, ab, aa, z, y, ac, ad, ai, ag, af, ae, aj, ak, am, ao]; rfl
                    refine regv_skip (s1 := ?_) ?_ ?_ ?_
                    rotate_left
                    · simp [a, b, e, d, f, g, i, j, m, k, q, o, u, v, w, ab, aa, z, y, ac, ad, ai, ag, af, ae, aj, ak, am, ao]; done
                    · simp [a, b, e, d, f, g, i, j, m, k, q, o, u, v, w, ab, aa, z, y, ac, ad, ai, ag, af, ae, aj, ak, am, ao]; rfl
                    refine regv_skip (s1 := ?_) ?_ ?_ ?_
                    rotate_left
                    · simp [a, b, e, d, f, g, i, j, m, k, q, o, u, v, w, ab, aa, z, y, ac, ad, ai, ag, af, ae, aj, ak, am, ao]; done
                    · simp [a, b, e, d, f, g, i, j, m, k, q, o, u, v, w, ab, aa, z, y, ac, ad, ai, ag, af, ae, aj, ak, am, ao]; rfl
                    iterate 2
                      refine regv_pure (s1 := ?_) rfl rfl ?_ ?_ ?_
                      rotate_left
                      · simp [a, b, e, d, f, g, i, j, m, k, q, o, u, v, w, ab, aa, z, y, ac, ad, ai, ag, af, ae, aj, ak, am, ao]; rfl
                      · first | (simp [a, b, e, d, f, g, i, j, m, k, q, o, u, v, w, ab, aa, z, y, ac, ad, ai, ag, af, ae, aj, ak, am, ao] <;> omega) | (have hq := ao; simp at hq; simp [a, b, e, d, f, g, i, j, m, k, q, o, u, v, w, ab, aa, z, y, ac, ad, ai, ag, af, ae, aj, ak, am, ao, hq]; done) | skip
                    refine regv_nil ?_
                    cases h
                    refine Wp.ret (endQ_ret0 rfl ?_)
                    repeat' first | exact All2.nil | refine All2.cons ?_ ?_ | refine AvLe.tups ?_ | refine AvLe.aggs ?_
                    all_goals first
                      | (exact AvLe.refl _ rfl)
                      | (exact AvLe.nil _)
                      | (exact AvLe.znil _)
                      | (exact AvLe.ghost _ rfl)
                      | (exact AvLe.zghost _ rfl)
                      | (exact AvLe.sl' rfl (by simp [a, b, e, d, f, g, i, j, m, k, q, o, u, v, w, ab, aa, z, y, ac, ad, ai, ag, af, ae, aj, ak, am, ao]; done) (by simp [a, b, e, d, f, g, i, j, m, k, q, o, u, v, w, ab, aa, z, y, ac, ad, ai, ag, af, ae, aj, ak, am, ao]; done))
                      | (exact AvLe.frz' rfl rfl rfl (by simp [a, b, e, d, f, g, i, j, m, k, q, o, u, v, w, ab, aa, z, y, ac, ad, ai, ag, af, ae, aj, ak, am, ao]; done) (by simp [a, b, e, d, f, g, i, j, m, k, q, o, u, v, w, ab, aa, z, y, ac, ad, ai, ag, af, ae, aj, ak, am, ao]; done) (by simp [a, b, e, d, f, g, i, j, m, k, q, o, u, v, w, ab, aa, z, y, ac, ad, ai, ag, af, ae, aj, ak, am, ao]; done))
                      | (exact AvLe.list' (by simp [a, b, e, d, f, g, i, j, m, k, q, o, u, v, w, ab, aa, z, y, ac, ad, ai, ag, af, ae, aj, ak, am, ao]; done) (by simp [a, b, e, d, f, g, i, j, m, k, q, o, u, v, w, ab, aa, z, y, ac, ad, ai, ag, af, ae, aj, ak, am, ao]; done))
                      | (exact AvLe.eq (by simp [a, b, e, d, f, g, i, j, m, k, q, o, u, v, w, ab, aa, z, y, ac, ad, ai, ag, af, ae, aj, ak, am, ao]; done) rfl)
                  · rw [ao, if_pos rfl] at h
                    refine regv_pure (s1 := ?_) rfl ?_ ?_ ?_ ?_
                    rotate_left
                    · simp [a, b, e, d, f, g, i, j, m, k, q, o, u, v, w, ab, aa, z, y, ac, ad, ai, ag, af, ae, aj, ak, am, ao]; done
                    · simp [a, b, e, d, f, g, i, j, m, k, q, o, u, v, w, ab, aa, z, y, ac, ad, ai, ag, af, ae, aj, ak, am, ao]; rfl
                    · first | (simp [a, b, e, d, f, g, i, j, m, k, q, o, u, v, w, ab, aa, z, y, ac, ad, ai, ag, af, ae, aj, ak, am, ao] <;> omega) | (have hq := ao; simp at hq; simp [a, b, e, d, f, g, i, j, m, k, q, o, u, v, w, ab, aa, z, y, ac, ad, ai, ag, af, ae, aj, ak, am, ao, hq]; done) | skip
                    refine regv_pure (s1 := ?_) rfl ?_ ?_ ?_ ?_
                    rotate_left
                    · simp [a, b, e, d, f, g, i, j, m, k, q, o, u, v, w, ab, aa, z, y, ac, ad, ai, ag, af, ae, aj, ak, am, ao]; done
                    · simp [a, b, e, d, f, g, i, j, m, k, q, o, u, v, w, ab, aa, z, y, ac, ad, ai, ag, af, ae, aj, ak, am, ao]; rfl
                    · first | (simp [a, b, e, d, f, g, i, j, m, k, q, o, u, v, w, ab, aa, z, y, ac, ad, ai, ag, af, ae, aj, ak, am, ao] <;> omega) | (have hq := ao; simp at hq; simp [a, b, e, d, f, g, i, j, m, k, q, o, u, v, w, ab, aa, z, y, ac, ad, ai, ag, af, ae, aj, ak, am, ao, hq]; done) | skip
                    obtain ⟨ce, bj, h⟩ := obind h
                    obtain ⟨av, au, aq⟩ := atI_some bj
                    try simp [a, b, e, d, f, g, i, j, m, k, q, o, u, v, w, ab, aa, z, y, ac, ad, ai, ag, af, ae, aj, ak, am, ao] at au
                    try simp only [Int.toNat_natCast, Int.reduceToNat, Nat.zero_add, Nat.add_zero] at aq
                    have ap := getElem_of aq
                    refine regv_pure (s1 := ?_) rfl ?_ ?_ ?_ ?_
                    rotate_left
                    · simp [a, b, e, d, f, g, i, j, m, k, q, o, u, v, w, ab, aa, z, y, ac, ad, ai, ag, af, ae, aj, ak, am, ao, av, au, aq, ap]; done
                    · simp [a, b, e, d, f, g, i, j, m, k, q, o, u, v, w, ab, aa, z, y, ac, ad, ai, ag, af, ae, aj, ak, am, ao, av, au, aq, ap]; rfl
                    · first | (simp [a, b, e, d, f, g, i, j, m, k, q, o, u, v, w, ab, aa, z, y, ac, ad, ai, ag, af, ae, aj, ak, am, ao, av, au, aq, ap] <;> omega) | (have hq := ap; simp at hq; simp [a, b, e, d, f, g, i, j, m, k, q, o, u, v, w, ab, aa, z, y, ac, ad, ai, ag, af, ae, aj, ak, am, ao, av, au, aq, ap, hq]; done) | skip
                    refine regv_pure (s1 := ?_) rfl ?_ ?_ ?_ ?_
                    rotate_left
                    · simp [a, b, e, d, f, g, i, j, m, k, q, o, u, v, w, ab, aa, z, y, ac, ad, ai, ag, af, ae, aj, ak, am, ao, av, au, aq, ap]; done
                    · simp [a, b, e, d, f, g, i, j, m, k, q, o, u, v, w, ab, aa, z, y, ac, ad, ai, ag, af, ae, aj, ak, am, ao, av, au, aq, ap]; rfl
                    · first | (simp [a, b, e, d, f, g, i, j, m, k, q, o, u, v, w, ab, aa, z, y, ac, ad, ai, ag, af, ae, aj, ak, am, ao, av, au, aq, ap] <;> omega) | (have hq := ap; simp at hq; simp [a, b, e, d, f, g, i, j, m, k, q, o, u, v, w, ab, aa, z, y, ac, ad, ai, ag, af, ae, aj, ak, am, ao, av, au, aq, ap, hq]; done) | skip
                    refine regv_pure (s1 := ?_) rfl ?_ ?_ ?_ ?_
                    rotate_left
                    · simp [a, b, e, d, f, g, i, j, m, k, q, o, u, v, w, ab, aa, z, y, ac, ad, ai, ag, af, ae, aj, ak, am, ao, av, au, aq, ap]; done
                    · simp [a, b, e, d, f, g, i, j, m, k, q, o, u, v, w, ab, aa, z, y, ac, ad, ai, ag, af, ae, aj, ak, am, ao, av, au, aq, ap]; rfl
                    · first | (simp [a, b, e, d, f, g, i, j, m, k, q, o, u, v, w, ab, aa, z, y, ac, ad, ai, ag, af, ae, aj, ak, am, ao, av, au, aq, ap] <;> omega) | (have hq := ap; simp at hq; simp [a, b, e, d, f, g, i, j, m, k, q, o, u, v, w, ab, aa, z, y, ac, ad, ai, ag, af, ae, aj, ak, am, ao, av, au, aq, ap, hq]; done) | skip
                    iterate 2
                      refine regv_pure (s1 := ?_) rfl rfl ?_ ?_ ?_
                      rotate_left
                      · simp [a, b, e, d, f, g, i, j, m, k, q, o, u, v, w, ab, aa, z, y, ac, ad, ai, ag, af, ae, aj, ak, am, ao, av, au, aq, ap]; rfl
                      · first | (simp [a, b, e, d, f, g, i, j, m, k, q, o, u, v, w, ab, aa, z, y, ac, ad, ai, ag, af, ae, aj, ak, am, ao, av, au, aq, ap] <;> omega) | (have hq := ap; simp at hq; simp [a, b, e, d, f, g, i, j, m, k, q, o, u, v, w, ab, aa, z, y, ac, ad, ai, ag, af, ae, aj, ak, am, ao, av, au, aq, ap, hq]; done) | skip
                    refine regv_nil ?_
                    cases h
                    refine Wp.ret (endQ_ret0 rfl ?_)
                    repeat' first | exact All2.nil | refine All2.cons ?_ ?_ | refine AvLe.tups ?_ | refine AvLe.aggs ?_
                    all_goals first
                      | (exact AvLe.refl _ rfl)
                      | (exact AvLe.nil _)
                      | (exact AvLe.znil _)
                      | (exact AvLe.ghost _ rfl)
                      | (exact AvLe.zghost _ rfl)
                      | (exact AvLe.sl' rfl (by simp [a, b, e, d, f, g, i, j, m, k, q, o, u, v, w, ab, aa, z, y, ac, ad, ai, ag, af, ae, aj, ak, am, ao, av, au, aq, ap]; done) (by simp [a, b, e, d, f, g, i, j, m, k, q, o, u, v, w, ab, aa, z, y, ac, ad, ai, ag, af, ae, aj, ak, am, ao, av, au, aq, ap]; done))
                      | (exact AvLe.frz' rfl rfl rfl (by simp [a, b, e, d, f, g, i, j, m, k, q, o, u, v, w, ab, aa, z, y, ac, ad, ai, ag, af, ae, aj, ak, am, ao, av, au, aq, ap]; done) (by simp [a, b, e, d, f, g, i, j, m, k, q, o, u, v, w, ab, aa, z, y, ac, ad, ai, ag, af, ae, aj, ak, am, ao, av, au, aq, ap]; done) (by simp [a, b, e, d, f, g, i, j, m, k, q, o, u, v, w, ab, aa, z, y, ac, ad, ai, ag, af, ae, aj, ak, am, ao, av, au, aq, ap]; done))
                      | (exact AvLe.list' (by simp [a, b, e, d, f, g, i, j, m, k, q, o, u, v, w, ab, aa, z, y, ac, ad, ai, ag, af, ae, aj, ak, am, ao, av, au, aq, ap]; done) (by simp [a, b, e, d, f, g, i, j, m, k, q, o, u, v, w, ab, aa, z, y, ac, ad, ai, ag, af, ae, aj, ak, am, ao, av, au, aq, ap]; done))
                      | (exact AvLe.eq (by simp [a, b, e, d, f, g, i, j, m, k, q, o, u, v, w, ab, aa, z, y, ac, ad, ai, ag, af, ae, aj, ak, am, ao, av, au, aq, ap]; done) rfl)

theorem con_law16_RungevalIsMonotone {n : Nat} {_append0 : ApiRung} {a1 : List Bool} {a2 : Int} {r : Bool} (h : law16_RungevalIsMonotone n _append0 a1 a2 = some r) : Con Try.prog 6 [.agg (cApiRung _append0), aL cB a1, .int .u8 a2] (.bool r) [] := by
  refine con_of (T := TT0) tt_ok Try.func6 (c := _) (by unfold Try.f6; rfl) Try.ntmps6 (rs := [.tmp 6]) (by rw [Try.results6]) (by unfold Try.f6; rfl) (by simp) ?_
  simp only [argsCh]
  dsimp only [law16_RungevalIsMonotone] at h
  refine Wp.reg_seq (own := fun _ => false) tt_ok ?_
  iterate 2
    refine regv_pure (s1 := ?_) rfl rfl ?_ ?_ ?_
    rotate_left
    · simp []; rfl
    · first | (simp [] <;> omega) | skip
  refine regv_nil ?_
  refine Wp.seq ?_
  refine Wp.reg_seq (own := fun _ => false) tt_ok ?_
  iterate 1
    refine regv_pure (s1 := ?_) rfl rfl ?_ ?_ ?_
    rotate_left
    · simp []; rfl
    · first | (simp [] <;> omega) | skip
  obtain ⟨bp, bc, h⟩ := obind h
  refine regv_call2 (s' := ?_) (p := ?_) (con_law12_TooLarge bc) rfl rfl rfl rfl ?_ ?_ ?_ ?_ ?_ ?_
  rotate_left 2
  · simp []; rfl
  · first | exact .inl rfl | (refine .inl ?_; simp []; done) | (refine .inr ?_; dsimp only; repeat' first | exact All2.nil | refine All2.cons ?_ ?_) <;> first | exact AvLe.refl _ rfl | exact AvLe.nil _ | exact AvLe.znil _ | exact AvLe.list' (by simp []; done) (by simp []; done) | exact AvLe.eq (by simp []; done) rfl
  · first | (simp [] <;> omega) | skip
  · simp
  · simp []; rfl
  iterate 2
    refine regv_pure (s1 := ?_) rfl rfl ?_ ?_ ?_
    rotate_left
    · simp []; rfl
    · first | (simp [] <;> omega) | skip
  refine (Decidable.em (bp > 0)).symm.elim (fun a => ?_) (fun a => ?_)
  · rw [if_neg (by simpa using a)] at h
    refine regv_pure (s1 := ?_) rfl ?_ ?_ ?_ ?_
    rotate_left
    · simp [a]; done
    · simp [a]; rfl
    · first | (simp [a] <;> omega) | (have hq := a; simp at hq; simp [a, hq]; done) | skip
    refine regv_pure (s1 := ?_) rfl ?_ ?_ ?_ ?_
    rotate_left
    · simp [a]; done
    · simp [a]; rfl
    · first | (simp [a] <;> omega) | (have hq := a; simp at hq; simp [a, hq]; done) | skip
    refine regv_pure (s1 := ?_) rfl ?_ ?_ ?_ ?_
    rotate_left
    · simp [a]; done
    · simp [a]; rfl
    · first | (simp [a] <;> omega) | (have hq := a; simp at hq; simp [a, hq]; done) | skip
    refine regv_pure (s1 := ?_) rfl ?_ ?_ ?_ ?_
    rotate_left
    · simp [a]; done
    · simp [a]; rfl
    · first | (simp [a] <;> omega) | (have hq := a; simp at hq; simp [a, hq]; done) | skip
    refine regv_pure (s1 := ?_) rfl ?_ ?_ ?_ ?_
    rotate_left
    · simp [a]; done
    · simp [a]; rfl
    · first | (simp [a] <;> omega) | (have hq := a; simp at hq; simp [a, hq]; done) | skip
    refine regv_pure (s1 := ?_) rfl ?_ ?_ ?_ ?_
    rotate_left
    · simp [a]; done
    · simp [a]; rfl
    · first | (simp [a] <;> omega) | (have hq := a; simp at hq; simp [a, hq]; done) | skip
    iterate 2
      refine regv_pure (s1 := ?_) rfl rfl ?_ ?_ ?_
      rotate_left
      · simp [a]; rfl
      · first | (simp [a] <;> omega) | (have hq := a; simp at hq; simp [a, hq]; done) | skip
    cases b : ((a1.length : Int) != (_append0.Contacts.length : Int))
    · rw [b, if_neg (by simp)] at h
      refine regv_pure (s1 := ?_) rfl ?_ ?_ ?_ ?_
      rotate_left
      · simp [a, b]; done
      · simp [a, b]; rfl
      · first | (simp [a, b] <;> omega) | (have hq := b; simp at hq; simp [a, b, hq]; done) | skip
      refine regv_pure (s1 := ?_) rfl ?_ ?_ ?_ ?_
      rotate_left
      · simp [a, b]; done
      · simp [a, b]; rfl
      · first | (simp [a, b] <;> omega) | (have hq := b; simp at hq; simp [a, b, hq]; done) | skip
      refine regv_pure (s1 := ?_) rfl ?_ ?_ ?_ ?_
      rotate_left
      · simp [a, b]; done
      · simp [a, b]; rfl
      · first | (simp [a, b] <;> omega) | (have hq := b; simp at hq; simp [a, b, hq]; done) | skip
      iterate 1
        refine regv_pure (s1 := ?_) rfl rfl ?_ ?_ ?_
        rotate_left
        · simp [a, b]; rfl
        · first | (simp [a, b] <;> omega) | (have hq := b; simp at hq; simp [a, b, hq]; done) | skip
      refine regv_nil ?_
      cases m : ((a1.length : Int) == 0)
      · rw [m, if_neg (by simp)] at h
        refine Wp.cond false (by first | (simp [a, b, m] <;> omega) | (have hq := m; simp at hq; simp [a, b, m, hq]; done)) (fun h0 => absurd h0 (by decide)) (fun _ => ?_)
        refine Wp.skip ?_
        show Wp _ _ _ _
        refine Wp.reg_seq (own := fun _ => false) tt_ok ?_
        iterate 2
          refine regv_pure (s1 := ?_) rfl rfl ?_ ?_ ?_
          rotate_left
          · simp [a, b, m]; rfl
          · first | (simp [a, b, m] <;> omega) | (have hq := m; simp at hq; simp [a, b, m, hq]; done) | skip
        obtain ⟨⟨bq, bu⟩, bd, h⟩ := obind h
        dsimp only at h
        refine regv_call2 (s' := ?_) (p := ?_) (con_rungeval_Conducts bd) rfl rfl rfl rfl ?_ ?_ ?_ ?_ ?_ ?_
        rotate_left 2
        · simp [a, b, m]; rfl
        · first | exact .inl rfl | (refine .inl ?_; simp [a, b, m]; done) | (refine .inr ?_; dsimp only; repeat' first | exact All2.nil | refine All2.cons ?_ ?_) <;> first | exact AvLe.refl _ rfl | exact AvLe.nil _ | exact AvLe.znil _ | exact AvLe.list' (by simp [a, b, m]; done) (by simp [a, b, m]; done) | exact AvLe.eq (by simp [a, b, m]; done) rfl
        · first | (simp [a, b, m] <;> omega) | (have hq := m; simp at hq; simp [a, b, m, hq]; done) | skip
        · simp
        · simp [a, b, m]; rfl
        iterate 5
          refine regv_pure (s1 := ?_) rfl rfl ?_ ?_ ?_
          rotate_left
          · simp [a, b, m]; rfl
          · first | (simp [a, b, m] <;> omega) | (have hq := m; simp at hq; simp [a, b, m, hq]; done) | skip
        refine regv_nil ?_
        refine Wp.reg_seq (own := fun d => Nat.beq d 42) tt_ok ?_
        iterate 2
          refine regv_pure (s1 := ?_) rfl rfl ?_ ?_ ?_
          rotate_left
          · simp [a, b, m]; rfl
          · first | (simp [a, b, m] <;> omega) | (have hq := m; simp at hq; simp [a, b, m, hq]; done) | skip
        obtain ⟨w, h⟩ := oguard h
        iterate 2
          refine regv_pure (s1 := ?_) rfl rfl ?_ ?_ ?_
          rotate_left
          · simp [a, b, m, w]; rfl
          · first | (simp [a, b, m, w] <;> omega) | (have hq := w; simp at hq; simp [a, b, m, w, hq]; done) | skip
        refine regv_nil ?_
        refine Wp.reg_seq (own := fun _ => false) tt_ok ?_
        iterate 5
          refine regv_pure (s1 := ?_) rfl rfl ?_ ?_ ?_
          rotate_left
          · simp [a, b, m, w]; rfl
          · first | (simp [a, b, m, w] <;> omega) | (have hq := w; simp at hq; simp [a, b, m, w, hq]; done) | skip
        obtain ⟨z, h⟩ := oguard h
        iterate 1
          refine regv_pure (s1 := ?_) rfl rfl ?_ ?_ ?_
          rotate_left
          · simp [a, b, m, w, z]; rfl
          · first | (simp [a, b, m, w, z] <;> omega) | (have hq := z; simp at hq; simp [a, b, m, w, z, hq]; done) | skip
        obtain ⟨cc, be, h⟩ := obind h
        obtain ⟨i, f, e⟩ := atI_some be
        try simp [a, b, m, w, z] at f
        try simp only [Int.toNat_natCast, Int.reduceToNat, Nat.zero_add, Nat.add_zero] at e
        have g := getElem_of e
        iterate 2
          refine regv_pure (s1 := ?_) rfl rfl ?_ ?_ ?_
          rotate_left
          · simp [a, b, m, w, z, i, f, e, g]; rfl
          · first | (simp [a, b, m, w, z, i, f, e, g] <;> omega) | (have hq := g; simp at hq; simp [a, b, m, w, z, i, f, e, g, hq]; done) | skip
        obtain ⟨cd, aw, h⟩ := obind h
        have k := congrArg (List.map cB) (Option.some.inj aw)
        have j := (congrArg List.length (Option.some.inj aw)).symm
        try simp [a, b, m, w, z, i, f, e, g] at k
        try simp [a, b, m, w, z, i, f, e, g] at j
        clear aw
        try simp only [k]
        refine regv_nil ?_
        refine Wp.reg_seq (own := fun _ => false) tt_ok ?_
        iterate 2
          refine regv_pure (s1 := ?_) rfl rfl ?_ ?_ ?_
          rotate_left
          · simp [a, b, m, w, z, i, f, e, g, k, j]; rfl
          · first | (simp [a, b, m, w, z, i, f, e, g, k, j] <;> omega) | (have hq := j; simp at hq; simp [a, b, m, w, z, i, f, e, g, k, j, hq]; done) | skip
        obtain ⟨⟨bv, bw⟩, bf, h⟩ := obind h
        dsimp only at h
        refine regv_call2 (s' := ?_) (p := ?_) (con_rungeval_Conducts bf) rfl rfl rfl rfl ?_ ?_ ?_ ?_ ?_ ?_
        rotate_left 2
        · simp [a, b, m, w, z, i, f, e, g, k, j]; rfl
        · first | exact .inl rfl | (refine .inl ?_; simp [a, b, m, w, z, i, f, e, g, k, j]; done) | (refine .inr ?_; dsimp only; repeat' first | exact All2.nil | refine All2.cons ?_ ?_) <;> first | exact AvLe.refl _ rfl | exact AvLe.nil _ | exact AvLe.znil _ | exact AvLe.list' (by simp [a, b, m, w, z, i, f, e, g, k, j]; done) (by simp [a, b, m, w, z, i, f, e, g, k, j]; done) | exact AvLe.eq (by simp [a, b, m, w, z, i, f, e, g, k, j]; done) rfl
        · first | (simp [a, b, m, w, z, i, f, e, g, k, j] <;> omega) | (have hq := j; simp at hq; simp [a, b, m, w, z, i, f, e, g, k, j, hq]; done) | skip
        · simp
        · simp [a, b, m, w, z, i, f, e, g, k, j]; rfl
        iterate 5
          refine regv_pure (s1 := ?_) rfl rfl ?_ ?_ ?_
          rotate_left
          · simp [a, b, m, w, z, i, f, e, g, k, j]; rfl
          · first | (simp [a, b, m, w, z, i, f, e, g, k, j] <;> omega) | (have hq := j; simp at hq; simp [a, b, m, w, z, i, f, e, g, k, j, hq]; done) | skip
        refine regv_nil ?_
        refine Wp.reg_seq (own := fun d => Nat.beq d 59) tt_ok ?_
        iterate 3
          refine regv_pure (s1 := ?_) rfl rfl ?_ ?_ ?_
          rotate_left
          · simp [a, b, m, w, z, i, f, e, g, k, j]; rfl
          · first | (simp [a, b, m, w, z, i, f, e, g, k, j] <;> omega) | (have hq := j; simp at hq; simp [a, b, m, w, z, i, f, e, g, k, j, hq]; done) | skip
        obtain ⟨ab, h⟩ := oguard h
        iterate 3
          refine regv_pure (s1 := ?_) rfl rfl ?_ ?_ ?_
          rotate_left
          · simp [a, b, m, w, z, i, f, e, g, k, j, ab]; rfl
          · first | (simp [a, b, m, w, z, i, f, e, g, k, j, ab] <;> omega) | (have hq := ab; simp at hq; simp [a, b, m, w, z, i, f, e, g, k, j, ab, hq]; done) | skip
        obtain ⟨ac, h⟩ := oguard h
        iterate 1
          refine regv_pure (s1 := ?_) rfl rfl ?_ ?_ ?_
          rotate_left
          · simp [a, b, m, w, z, i, f, e, g, k, j, ab, ac]; rfl
          · first | (simp [a, b, m, w, z, i, f, e, g, k, j, ab, ac] <;> omega) | (have hq := ac; simp at hq; simp [a, b, m, w, z, i, f, e, g, k, j, ab, ac, hq]; done) | skip
        obtain ⟨ce, ay, h⟩ := obind h
        have q := congrArg (List.map cApiContact) (Option.some.inj ay)
        have o := (congrArg List.length (Option.some.inj ay)).symm
        try simp [a, b, m, w, z, i, f, e, g, k, j, ab, ac] at q
        try simp [a, b, m, w, z, i, f, e, g, k, j, ab, ac] at o
        clear ay
        try simp only [q]
        iterate 3
          refine regv_pure (s1 := ?_) rfl rfl ?_ ?_ ?_
          rotate_left
          · simp [a, b, m, w, z, i, f, e, g, k, j, ab, ac, q, o]; rfl
          · first | (simp [a, b, m, w, z, i, f, e, g, k, j, ab, ac, q, o] <;> omega) | (have hq := o; simp at hq; simp [a, b, m, w, z, i, f, e, g, k, j, ab, ac, q, o, hq]; done) | skip
        refine regv_nil ?_
        refine Wp.drawn (own := fun d => Nat.beq d 68 || Nat.beq d 70 || Nat.beq d 71) tt_ok mixed [3, 4] (by decide +kernel) trivial ?_
        refine regI_upto 3 (r := ?_) ?_ ?_ ?_
        rotate_left
        · simp [List.range, List.range.loop, a, b, m, w, z, i, f, e, g, k, j, ab, ac, q, o]; rfl
        · first | (simp [a, b, m, w, z, i, f, e, g, k, j, ab, ac, q, o] <;> omega) | (have hq := o; simp at hq; simp [a, b, m, w, z, i, f, e, g, k, j, ab, ac, q, o, hq]; done) | skip
        obtain ⟨ad, h⟩ := oguard h
        refine regI_eff (r := ?_) rfl rfl rfl rfl rfl ?_ ?_ rfl ?_ ?_
        rotate_left
        · simp [a, b, m, w, z, i, f, e, g, k, j, ab, ac, q, o, ad]; rfl
        · first | (simp [a, b, m, w, z, i, f, e, g, k, j, ab, ac, q, o, ad] <;> omega) | (have hq := ad; simp at hq; simp [a, b, m, w, z, i, f, e, g, k, j, ab, ac, q, o, ad, hq]; done) | skip
        · simp [a, b, m, w, z, i, f, e, g, k, j, ab, ac, q, o, ad]
        refine regI_upto 1 (r := ?_) ?_ ?_ ?_
        rotate_left
        · simp [List.range, List.range.loop, a, b, m, w, z, i, f, e, g, k, j, ab, ac, q, o, ad]; rfl
        · first | (simp [a, b, m, w, z, i, f, e, g, k, j, ab, ac, q, o, ad] <;> omega) | (have hq := ad; simp at hq; simp [a, b, m, w, z, i, f, e, g, k, j, ab, ac, q, o, ad, hq]; done) | skip
        obtain ⟨ae, h⟩ := oguard h
        refine regI_eff (r := ?_) rfl rfl rfl rfl rfl ?_ ?_ rfl ?_ ?_
        rotate_left
        · simp [a, b, m, w, z, i, f, e, g, k, j, ab, ac, q, o, ad, ae]; rfl
        · first | (simp [a, b, m, w, z, i, f, e, g, k, j, ab, ac, q, o, ad, ae] <;> omega) | (have hq := ae; simp at hq; simp [a, b, m, w, z, i, f, e, g, k, j, ab, ac, q, o, ad, ae, hq]; done) | skip
        · simp [a, b, m, w, z, i, f, e, g, k, j, ab, ac, q, o, ad, ae]
        obtain ⟨cf, az, h⟩ := obind h
        have v := congrArg (List.map cB) (Option.some.inj az)
        have u := (congrArg List.length (Option.some.inj az)).symm
        try simp [a, b, m, w, z, i, f, e, g, k, j, ab, ac, q, o, ad, ae] at v
        try simp [a, b, m, w, z, i, f, e, g, k, j, ab, ac, q, o, ad, ae] at u
        clear az
        try simp only [v]
        obtain ⟨⟨bb, bz⟩, bg, h⟩ := obind h
        dsimp only at h
        refine regI_ecall2 (s1 := ?_) (p := ?_) (con_rungeval_Conducts bg) rfl rfl rfl rfl ?_ ?_ ?_ ?_ ?_ ?_ ?_
        rotate_left 2
        · simp [a, b, m, w, z, i, f, e, g, k, j, ab, ac, q, o, ad, ae, v, u]; rfl
        · first | exact .inl rfl | (refine .inl ?_; simp [a, b, m, w, z, i, f, e, g, k, j, ab, ac, q, o, ad, ae, v, u]; done) | (refine .inr ?_; dsimp only; repeat' first | exact All2.nil | refine All2.cons ?_ ?_) <;> first | exact AvLe.refl _ rfl | exact AvLe.nil _ | exact AvLe.znil _ | exact AvLe.list' (by simp [a, b, m, w, z, i, f, e, g, k, j, ab, ac, q, o, ad, ae, v, u]; done) (by simp [a, b, m, w, z, i, f, e, g, k, j, ab, ac, q, o, ad, ae, v, u]; done) | exact AvLe.eq (by simp [a, b, m, w, z, i, f, e, g, k, j, ab, ac, q, o, ad, ae, v, u]; done) rfl
        · first | (simp [a, b, m, w, z, i, f, e, g, k, j, ab, ac, q, o, ad, ae, v, u] <;> omega) | (have hq := u; simp at hq; simp [a, b, m, w, z, i, f, e, g, k, j, ab, ac, q, o, ad, ae, v, u, hq]; done) | skip
        · simp
        · simp
        · simp [a, b, m, w, z, i, f, e, g, k, j, ab, ac, q, o, ad, ae, v, u]; rfl
        refine regI_upto 5 (r := ?_) ?_ ?_ ?_
        rotate_left
        · simp [List.range, List.range.loop, a, b, m, w, z, i, f, e, g, k, j, ab, ac, q, o, ad, ae, v, u]; rfl
        · first | (simp [a, b, m, w, z, i, f, e, g, k, j, ab, ac, q, o, ad, ae, v, u] <;> omega) | (have hq := u; simp at hq; simp [a, b, m, w, z, i, f, e, g, k, j, ab, ac, q, o, ad, ae, v, u, hq]; done) | skip
        refine regI_nil ?_
        refine Wp.drawn (own := fun d => Nat.beq d 78 || Nat.beq d 80 || Nat.beq d 81) tt_ok mixed [3, 4] (by decide +kernel) trivial ?_
        refine regI_upto 3 (r := ?_) ?_ ?_ ?_
        rotate_left
        · simp [List.range, List.range.loop, a, b, m, w, z, i, f, e, g, k, j, ab, ac, q, o, ad, ae, v, u]; rfl
        · first | (simp [a, b, m, w, z, i, f, e, g, k, j, ab, ac, q, o, ad, ae, v, u] <;> omega) | (have hq := u; simp at hq; simp [a, b, m, w, z, i, f, e, g, k, j, ab, ac, q, o, ad, ae, v, u, hq]; done) | skip
        obtain ⟨af, h⟩ := oguard h
        refine regI_eff (r := ?_) rfl rfl rfl rfl rfl ?_ ?_ rfl ?_ ?_
        rotate_left
        · simp [a, b, m, w, z, i, f, e, g, k, j, ab, ac, q, o, ad, ae, v, u, af]; rfl
        · first | (simp [a, b, m, w, z, i, f, e, g, k, j, ab, ac, q, o, ad, ae, v, u, af] <;> omega) | (have hq := af; simp at hq; simp [a, b, m, w, z, i, f, e, g, k, j, ab, ac, q, o, ad, ae, v, u, af, hq]; done) | skip
        · simp [a, b, m, w, z, i, f, e, g, k, j, ab, ac, q, o, ad, ae, v, u, af]
        refine regI_upto 1 (r := ?_) ?_ ?_ ?_
        rotate_left
        · simp [List.range, List.range.loop, a, b, m, w, z, i, f, e, g, k, j, ab, ac, q, o, ad, ae, v, u, af]; rfl
        · first | (simp [a, b, m, w, z, i, f, e, g, k, j, ab, ac, q, o, ad, ae, v, u, af] <;> omega) | (have hq := af; simp at hq; simp [a, b, m, w, z, i, f, e, g, k, j, ab, ac, q, o, ad, ae, v, u, af, hq]; done) | skip
        obtain ⟨ag, h⟩ := oguard h
        refine regI_eff (r := ?_) rfl rfl rfl rfl rfl ?_ ?_ rfl ?_ ?_
        rotate_left
        · simp [a, b, m, w, z, i, f, e, g, k, j, ab, ac, q, o, ad, ae, v, u, af, ag]; rfl
        · first | (simp [a, b, m, w, z, i, f, e, g, k, j, ab, ac, q, o, ad, ae, v, u, af, ag] <;> omega) | (have hq := ag; simp at hq; simp [a, b, m, w, z, i, f, e, g, k, j, ab, ac, q, o, ad, ae, v, u, af, ag, hq]; done) | skip
        · simp [a, b, m, w, z, i, f, e, g, k, j, ab, ac, q, o, ad, ae, v, u, af, ag]
        obtain ⟨cg, ba, h⟩ := obind h
        have aa := congrArg (List.map cB) (Option.some.inj ba)
        have y := (congrArg List.length (Option.some.inj ba)).symm
        try simp [a, b, m, w, z, i, f, e, g, k, j, ab, ac, q, o, ad, ae, v, u, af, ag] at aa
        try simp [a, b, m, w, z, i, f, e, g, k, j, ab, ac, q, o, ad, ae, v, u, af, ag] at y
        clear ba
        try simp only [aa]
        obtain ⟨⟨ci, ca⟩, bi, h⟩ := obind h
        dsimp only at h
        refine regI_ecall2 (s1 := ?_) (p := ?_) (con_rungeval_Conducts bi) rfl rfl rfl rfl ?_ ?_ ?_ ?_ ?_ ?_ ?_
        rotate_left 2
        · simp [a, b, m, w, z, i, f, e, g, k, j, ab, ac, q, o, ad, ae, v, u, af, ag, aa, y]; rfl
        · first | exact .inl rfl | (refine .inl ?_; simp [a, b, m, w, z, i, f, e, g, k, j, ab, ac, q, o, ad, ae, v, u, af, ag, aa, y]; done) | (refine .inr ?_; dsimp only; repeat' first | exact All2.nil | refine All2.cons ?_ ?_) <;> first | exact AvLe.refl _ rfl | exact AvLe.nil _ | exact AvLe.znil _ | exact AvLe.list' (by simp [a, b, m, w, z, i, f, e, g, k, j, ab, ac, q, o, ad, ae, v, u, af, ag, aa, y]; done) (by simp [a, b, m, w, z, i, f, e, g, k, j, ab, ac, q, o, ad, ae, v, u, af, ag, aa, y]; done) | exact AvLe.eq (by simp [a, b, m, w, z, i, f, e, g, k, j, ab, ac, q, o, ad, ae, v, u, af, ag, aa, y]; done) rfl
        · first | (simp [a, b, m, w, z, i, f, e, g, k, j, ab, ac, q, o, ad, ae, v, u, af, ag, aa, y] <;> omega) | (have hq := y; simp at hq; simp [a, b, m, w, z, i, f, e, g, k, j, ab, ac, q, o, ad, ae, v, u, af, ag, aa, y, hq]; done) | skip
        · simp
        · simp
        · simp [a, b, m, w, z, i, f, e, g, k, j, ab, ac, q, o, ad, ae, v, u, af, ag, aa, y]; rfl
        refine regI_upto 5 (r := ?_) ?_ ?_ ?_
        rotate_left
        · simp [List.range, List.range.loop, a, b, m, w, z, i, f, e, g, k, j, ab, ac, q, o, ad, ae, v, u, af, ag, aa, y]; rfl
        · first | (simp [a, b, m, w, z, i, f, e, g, k, j, ab, ac, q, o, ad, ae, v, u, af, ag, aa, y] <;> omega) | (have hq := y; simp at hq; simp [a, b, m, w, z, i, f, e, g, k, j, ab, ac, q, o, ad, ae, v, u, af, ag, aa, y, hq]; done) | skip
        refine regI_nil ?_
        refine Wp.reg_seq (own := fun _ => false) tt_ok ?_
        obtain ⟨cb, bj, h⟩ := obind h
        refine regv_call2 (s' := ?_) (p := ?_) (con_law16_alive bj) rfl rfl rfl rfl ?_ ?_ ?_ ?_ ?_ ?_
        rotate_left 2
        · simp [a, b, m, w, z, i, f, e, g, k, j, ab, ac, q, o, ad, ae, v, u, af, ag, aa, y]; rfl
        · first | exact .inl rfl | (refine .inl ?_; simp [a, b, m, w, z, i, f, e, g, k, j, ab, ac, q, o, ad, ae, v, u, af, ag, aa, y]; done) | (refine .inr ?_; dsimp only; repeat' first | exact All2.nil | refine All2.cons ?_ ?_) <;> first | exact AvLe.refl _ rfl | exact AvLe.nil _ | exact AvLe.znil _ | exact AvLe.list' (by simp [a, b, m, w, z, i, f, e, g, k, j, ab, ac, q, o, ad, ae, v, u, af, ag, aa, y]; done) (by simp [a, b, m, w, z, i, f, e, g, k, j, ab, ac, q, o, ad, ae, v, u, af, ag, aa, y]; done) | exact AvLe.eq (by simp [a, b, m, w, z, i, f, e, g, k, j, ab, ac, q, o, ad, ae, v, u, af, ag, aa, y]; done) rfl
        · first | (simp [a, b, m, w, z, i, f, e, g, k, j, ab, ac, q, o, ad, ae, v, u, af, ag, aa, y] <;> omega) | (have hq := y; simp at hq; simp [a, b, m, w, z, i, f, e, g, k, j, ab, ac, q, o, ad, ae, v, u, af, ag, aa, y, hq]; done) | skip
        · simp
        · simp [a, b, m, w, z, i, f, e, g, k, j, ab, ac, q, o, ad, ae, v, u, af, ag, aa, y]; rfl
        iterate 1
          refine regv_pure (s1 := ?_) rfl rfl ?_ ?_ ?_
          rotate_left
          · simp [a, b, m, w, z, i, f, e, g, k, j, ab, ac, q, o, ad, ae, v, u, af, ag, aa, y]; rfl
          · first | (simp [a, b, m, w, z, i, f, e, g, k, j, ab, ac, q, o, ad, ae, v, u, af, ag, aa, y] <;> omega) | (have hq := y; simp at hq; simp [a, b, m, w, z, i, f, e, g, k, j, ab, ac, q, o, ad, ae, v, u, af, ag, aa, y, hq]; done) | skip
        cases ai : cb
        · rw [ai, if_neg (by simp)] at h
          refine regv_skip (s1 := ?_) ?_ ?_ ?_
          rotate_left
          · simp [a, b, m, w, z, i, f, e, g, k, j, ab, ac, q, o, ad, ae, v, u, af, ag, aa, y, ai]; done
          · simp [a, b, m, w, z, i, f, e, g, k, j, ab, ac, q, o, ad, ae, v, u, af, ag, aa, y, ai]; rfl
          refine regv_skip (s1 := ?_) ?_ ?_ ?_
          rotate_left
          · simp [a, b, m, w, z, i, f, e, g, k, j, ab, ac, q, o, ad, ae, v, u, af, ag, aa, y, ai]; done
          · simp [a, b, m, w, z, i, f, e, g, k, j, ab, ac, q, o, ad, ae, v, u, af, ag, aa, y, ai]; rfl
          iterate 2
            refine regv_pure (s1 := ?_) rfl rfl ?_ ?_ ?_
            rotate_left
            · simp [a, b, m, w, z, i, f, e, g, k, j, ab, ac, q, o, ad, ae, v, u, af, ag, aa, y, ai]; rfl
            · first | (simp [a, b, m, w, z, i, f, e, g, k, j, ab, ac, q, o, ad, ae, v, u, af, ag, aa, y, ai] <;> omega) | (have hq := ai; simp at hq; simp [a, b, m, w, z, i, f, e, g, k, j, ab, ac, q, o, ad, ae, v, u, af, ag, aa, y, ai, hq]; done) | skip
          refine regv_skip (s1 := ?_) ?_ ?_ ?_
          rotate_left
          · simp [a, b, m, w, z, i, f, e, g, k, j, ab, ac, q, o, ad, ae, v, u, af, ag, aa, y, ai]; done
          · simp [a, b, m, w, z, i, f, e, g, k, j, ab, ac, q, o, ad, ae, v, u, af, ag, aa, y, ai]; rfl
          refine regv_skip (s1 := ?_) ?_ ?_ ?_
          rotate_left
          · simp [a, b, m, w, z, i, f, e, g, k, j, ab, ac, q, o, ad, ae, v, u, af, ag, aa, y, ai]; done
          · simp [a, b, m, w, z, i, f, e, g, k, j, ab, ac, q, o, ad, ae, v, u, af, ag, aa, y, ai]; rfl
          iterate 2
            refine regv_pure (s1 := ?_) rfl rfl ?_ ?_ ?_
            rotate_left
            · simp [a, b, m, w, z, i, f, e, g, k, j, ab, ac, q, o, ad, ae, v, u, af, ag, aa, y, ai]; rfl
            · first | (simp [a, b, m, w, z, i, f, e, g, k, j, ab, ac, q, o, ad, ae, v, u, af, ag, aa, y, ai] <;> omega) | (have hq := ai; simp at hq; simp [a, b, m, w, z, i, f, e, g, k, j, ab, ac, q, o, ad, ae, v, u, af, ag, aa, y, ai, hq]; done) | skip
          refine regv_skip (s1 := ?_) ?_ ?_ ?_
          rotate_left
          · simp [a, b, m, w, z, i, f, e, g, k, j, ab, ac, q, o, ad, ae, v, u, af, ag, aa, y, ai]; done
          · simp [a, b, m, w, z, i, f, e, g, k, j, ab, ac, q, o, ad, ae, v, u, af, ag, aa, y, ai]; rfl
          refine regv_skip (s1 := ?_) ?_ ?_ ?_
          rotate_left
          · simp [a, b, m, w, z, i, f, e, g, k, j, ab, ac, q, o, ad, ae, v, u, af, ag, aa, y, ai]; done
          · simp [a, b, m, w, z, i, f, e, g, k, j, ab, ac, q, o, ad, ae, v, u, af, ag, aa, y, ai]; rfl
          iterate 2
            refine regv_pure (s1 := ?_) rfl rfl ?_ ?_ ?_
            rotate_left
            · simp [a, b, m, w, z, i, f, e, g, k, j, ab, ac, q, o, ad, ae, v, u, af, ag, aa, y, ai]; rfl
            · first | (simp [a, b, m, w, z, i, f, e, g, k, j, ab, ac, q, o, ad, ae, v, u, af, ag, aa, y, ai] <;> omega) | (have hq := ai; simp at hq; simp [a, b, m, w, z, i, f, e, g, k, j, ab, ac, q, o, ad, ae, v, u, af, ag, aa, y, ai, hq]; done) | skip
          refine regv_skip (s1 := ?_) ?_ ?_ ?_
          rotate_left
          · simp [a, b, m, w, z, i, f, e, g, k, j, ab, ac, q, o, ad, ae, v, u, af, ag, aa, y, ai]; done
          · simp [a, b, m, w, z, i, f, e, g, k, j, ab, ac, q, o, ad, ae, v, u, af, ag, aa, y, ai]; rfl
          refine regv_skip (s1 := ?_) ?_ ?_ ?_
          rotate_left
          · simp [a, b, m, w, z, i, f, e, g, k, j, ab, ac, q, o, ad, ae, v, u, af, ag, aa, y, ai]; done
          · simp [a, b, m, w, z, i, f, e, g, k, j, ab, ac, q, o, ad, ae, v, u, af, ag, aa, y, ai]; rfl
          iterate 2
            refine regv_pure (s1 := ?_) rfl rfl ?_ ?_ ?_
            rotate_left
            · simp [a, b, m, w, z, i, f, e, g, k, j, ab, ac, q, o, ad, ae, v, u, af, ag, aa, y, ai]; rfl
            · first | (simp [a, b, m, w, z, i, f, e, g, k, j, ab, ac, q, o, ad, ae, v, u, af, ag, aa, y, ai] <;> omega) | (have hq := ai; simp at hq; simp [a, b, m, w, z, i, f, e, g, k, j, ab, ac, q, o, ad, ae, v, u, af, ag, aa, y, ai, hq]; done) | skip
          refine regv_skip (s1 := ?_) ?_ ?_ ?_
          rotate_left
          · simp [a, b, m, w, z, i, f, e, g, k, j, ab, ac, q, o, ad, ae, v, u, af, ag, aa, y, ai]; done
          · simp [a, b, m, w, z, i, f, e, g, k, j, ab, ac, q, o, ad, ae, v, u, af, ag, aa, y, ai]; rfl
          refine regv_skip (s1 := ?_) ?_ ?_ ?_
          rotate_left
          · simp [a, b, m, w, z, i, f, e, g, k, j, ab, ac, q, o, ad, ae, v, u, af, ag, aa, y, ai]; done
          · simp [a, b, m, w, z, i, f, e, g, k, j, ab, ac, q, o, ad, ae, v, u, af, ag, aa, y, ai]; rfl
          refine regv_skip (s1 := ?_) ?_ ?_ ?_
          rotate_left
          · simp [a, b, m, w, z, i, f, e, g, k, j, ab, ac, q, o, ad, ae, v, u, af, ag, aa, y, ai]; done
          · simp [a, b, m, w, z, i, f, e, g, k, j, ab, ac, q, o, ad, ae, v, u, af, ag, aa, y, ai]; rfl
          refine regv_skip (s1 := ?_) ?_ ?_ ?_
          rotate_left
          · simp [a, b, m, w, z, i, f, e, g, k, j, ab, ac, q, o, ad, ae, v, u, af, ag, aa, y, ai]; done
          · simp [a, b, m, w, z, i, f, e, g, k, j, ab, ac, q, o, ad, ae, v, u, af, ag, aa, y, ai]; rfl
          refine regv_skip (s1 := ?_) ?_ ?_ ?_
          rotate_left
          · simp [a, b, m, w, z, i, f, e, g, k, j, ab, ac, q, o, ad, ae, v, u, af, ag, aa, y, ai]; done
          · simp [a, b, m, w, z, i, f, e, g, k, j, ab, ac, q, o, ad, ae, v, u, af, ag, aa, y, ai]; rfl
          iterate 2
            refine regv_pure (s1 := ?_) rfl rfl ?_ ?_ ?_
            rotate_left
            · simp [a, b, m, w, z, i, f, e, g, k, j, ab, ac, q, o, ad, ae, v, u, af, ag, aa, y, ai]; rfl
            · first | (simp [a, b, m, w, z, i, f, e, g, k, j, ab, ac, q, o, ad, ae, v, u, af, ag, aa, y, ai] <;> omega) | (have hq := ai; simp at hq; simp [a, b, m, w, z, i, f, e, g, k, j, ab, ac, q, o, ad, ae, v, u, af, ag, aa, y, ai, hq]; done) | skip
          refine regv_skip (s1 := ?_) ?_ ?_ ?_
          rotate_left
          · simp [a, b, m, w, z, i, f, e, g, k, j, ab, ac, q, o, ad, ae, v, u, af, ag, aa, y, ai]; done
          · simp [a, b, m, w, z, i, f, e, g, k, j, ab, ac, q, o, ad, ae, v, u, af, ag, aa, y, ai]; rfl
          iterate 2
            refine regv_pure (s1 := ?_) rfl rfl ?_ ?_ ?_
            rotate_left
            · simp [a, b, m, w, z, i, f, e, g, k, j, ab, ac, q, o, ad, ae, v, u, af, ag, aa, y, ai]; rfl
            · first | (simp [a, b, m, w, z, i, f, e, g, k, j, ab, ac, q, o, ad, ae, v, u, af, ag, aa, y, ai] <;> omega) | (have hq := ai; simp at hq; simp [a, b, m, w, z, i, f, e, g, k, j, ab, ac, q, o, ad, ae, v, u, af, ag, aa, y, ai, hq]; done) | skip
          refine regv_skip (s1 := ?_) ?_ ?_ ?_
          rotate_left
          · simp [a, b, m, w, z, i, f, e, g, k, j, ab, ac, q, o, ad, ae, v, u, af, ag, aa, y, ai]; done
          · simp [a, b, m, w, z, i, f, e, g, k, j, ab, ac, q, o, ad, ae, v, u, af, ag, aa, y, ai]; rfl
          refine regv_skip (s1 := ?_) ?_ ?_ ?_
          rotate_left
          · simp [a, b, m, w, z, i, f, e, g, k, j, ab, ac, q, o, ad, ae, v, u, af, ag, aa, y, ai]; done
          · simp [a, b, m, w, z, i, f, e, g, k, j, ab, ac, q, o, ad, ae, v, u, af, ag, aa, y, ai]; rfl
          refine regv_skip (s1 := ?_) ?_ ?_ ?_
          rotate_left
          · simp [a, b, m, w, z, i, f, e, g, k, j, ab, ac, q, o, ad, ae, v, u, af, ag, aa, y, ai]; done
          · simp [a, b, m, w, z, i, f, e, g, k, j, ab, ac, q, o, ad, ae, v, u, af, ag, aa, y, ai]; rfl
          iterate 2
            refine regv_pure (s1 := ?_) rfl rfl ?_ ?_ ?_
            rotate_left
            · simp [a, b, m, w, z, i, f, e, g, k, j, ab, ac, q, o, ad, ae, v, u, af, ag, aa, y, ai]; rfl
            · first | (simp [a, b, m, w, z, i, f, e, g, k, j, ab, ac, q, o, ad, ae, v, u, af, ag, aa, y, ai] <;> omega) | (have hq := ai; simp at hq; simp [a, b, m, w, z, i, f, e, g, k, j, ab, ac, q, o, ad, ae, v, u, af, ag, aa, y, ai, hq]; done) | skip
          refine regv_nil ?_
          cases h
          refine Wp.ret (endQ_ret0 rfl ?_)
          repeat' first | exact All2.nil | refine All2.cons ?_ ?_ | refine AvLe.tups ?_ | refine AvLe.aggs ?_
          all_goals first
            | (exact AvLe.refl _ rfl)
            | (exact AvLe.nil _)
            | (exact AvLe.znil _)
            | (exact AvLe.ghost _ rfl)
            | (exact AvLe.zghost _ rfl)
            | (exact AvLe.sl' rfl (by simp [a, b, m, w, z, i, f, e, g, k, j, ab, ac, q, o, ad, ae, v, u, af, ag, aa, y, ai]; done) (by simp [a, b, m, w, z, i, f, e, g, k, j, ab, ac, q, o, ad, ae, v, u, af, ag, aa, y, ai]; done))
            | (exact AvLe.frz' rfl rfl rfl (by simp [a, b, m, w, z, i, f, e, g, k, j, ab, ac, q, o, ad, ae, v, u, af, ag, aa, y, ai]; done) (by simp [a, b, m, w, z, i, f, e, g, k, j, ab, ac, q, o, ad, ae, v, u, af, ag, aa, y, ai]; done) (by simp [a, b, m, w, z, i, f, e, g, k, j, ab, ac, q, o, ad, ae, v, u, af, ag, aa, y, ai]; done))
            | (exact AvLe.list' (by simp [a, b, m, w, z, i, f, e, g, k, j, ab, ac, q, o, ad, ae, v, u, af, ag, aa, y, ai]; done) (by simp [a, b, m, w, z, i, f, e, g, k, j, ab, ac, q, o, ad, ae, v, u, af, ag, aa, y, ai]; done))
            | (exact AvLe.eq (by simp [a, b, m, w, z, i, f, e, g, k, j, ab, ac, q, o, ad, ae, v, u, af, ag, aa, y, ai]; done) rfl)
        · rw [ai, if_pos rfl] at h
          refine regv_pure (s1 := ?_) rfl ?_ ?_ ?_ ?_
          rotate_left
          · simp [a, b, m, w, z, i, f, e, g, k, j, ab, ac, q, o, ad, ae, v, u, af, ag, aa, y, ai]; done
          · simp [a, b, m, w, z, i, f, e, g, k, j, ab, ac, q, o, ad, ae, v, u, af, ag, aa, y, ai]; rfl
          · first | (simp [a, b, m, w, z, i, f, e, g, k, j, ab, ac, q, o, ad, ae, v, u, af, ag, aa, y, ai] <;> omega) | (have hq := ai; simp at hq; simp [a, b, m, w, z, i, f, e, g, k, j, ab, ac, q, o, ad, ae, v, u, af, ag, aa, y, ai, hq]; done) | skip
          refine regv_pure (s1 := ?_) rfl ?_ ?_ ?_ ?_
          rotate_left
          · simp [a, b, m, w, z, i, f, e, g, k, j, ab, ac, q, o, ad, ae, v, u, af, ag, aa, y, ai]; done
          · simp [a, b, m, w, z, i, f, e, g, k, j, ab, ac, q, o, ad, ae, v, u, af, ag, aa, y, ai]; rfl
          · first | (simp [a, b, m, w, z, i, f, e, g, k, j, ab, ac, q, o, ad, ae, v, u, af, ag, aa, y, ai] <;> omega) | (have hq := ai; simp at hq; simp [a, b, m, w, z, i, f, e, g, k, j, ab, ac, q, o, ad, ae, v, u, af, ag, aa, y, ai, hq]; done) | skip
          iterate 2
            refine regv_pure (s1 := ?_) rfl rfl ?_ ?_ ?_
            rotate_left
            · simp [a, b, m, w, z, i, f, e, g, k, j, ab, ac, q, o, ad, ae, v, u, af, ag, aa, y, ai]; rfl
            · first | (simp [a, b, m, w, z, i, f, e, g, k, j, ab, ac, q, o, ad, ae, v, u, af, ag, aa, y, ai] <;> omega) | (have hq := ai; simp at hq; simp [a, b, m, w, z, i, f, e, g, k, j, ab, ac, q, o, ad, ae, v, u, af, ag, aa, y, ai, hq]; done) | skip
          cases aj : (bu == 0)
          · rw [aj, if_neg (by simp)] at h
            refine regv_skip (s1 := ?_) ?_ ?_ ?_
            rotate_left
            · simp [a, b, m, w, z, i, f, e, g, k, j, ab, ac, q, o, ad, ae, v, u, af, ag, aa, y, ai, aj]; done
            · simp [a, b, m, w, z, i, f, e, g, k, j, ab, ac, q, o, ad, ae, v, u, af, ag, aa, y, ai, aj]; rfl
            refine regv_skip (s1 := ?_) ?_ ?_ ?_
            rotate_left
            · simp [a, b, m, w, z, i, f, e, g, k, j, ab, ac, q, o, ad, ae, v, u, af, ag, aa, y, ai, aj]; done
            · simp [a, b, m, w, z, i, f, e, g, k, j, ab, ac, q, o, ad, ae, v, u, af, ag, aa, y, ai, aj]; rfl
            iterate 2
              refine regv_pure (s1 := ?_) rfl rfl ?_ ?_ ?_
              rotate_left
              · simp [a, b, m, w, z, i, f, e, g, k, j, ab, ac, q, o, ad, ae, v, u, af, ag, aa, y, ai, aj]; rfl
              · first | (simp [a, b, m, w, z, i, f, e, g, k, j, ab, ac, q, o, ad, ae, v, u, af, ag, aa, y, ai, aj] <;> omega) | (have hq := aj; simp at hq; simp [a, b, m, w, z, i, f, e, g, k, j, ab, ac, q, o, ad, ae, v, u, af, ag, aa, y, ai, aj, hq]; done) | skip
            refine regv_skip (s1 := ?_) ?_ ?_ ?_
            rotate_left
            · simp [a, b, m, w, z, i, f, e, g, k, j, ab, ac, q, o, ad, ae, v, u, af, ag, aa, y, ai, aj]; done
            · simp [a, b, m, w, z, i, f, e, g, k, j, ab, ac, q, o, ad, ae, v, u, af, ag, aa, y, ai, aj]; rfl
            refine regv_skip (s1 := ?_) ?_ ?_ ?_
            rotate_left
            · simp [a, b, m, w, z, i, f, e, g, k, j, ab, ac, q, o, ad, ae, v, u, af, ag, aa, y, ai, aj]; done
            · simp [a, b, m, w, z, i, f, e, g, k, j, ab, ac, q, o, ad, ae, v, u, af, ag, aa, y, ai, aj]; rfl
            iterate 2
              refine regv_pure (s1 := ?_) rfl rfl ?_ ?_ ?_
              rotate_left
              · simp [a, b, m, w, z, i, f, e, g, k, j, ab, ac, q, o, ad, ae, v, u, af, ag, aa, y, ai, aj]; rfl
              · first | (simp [a, b, m, w, z, i, f, e, g, k, j, ab, ac, q, o, ad, ae, v, u, af, ag, aa, y, ai, aj] <;> omega) | (have hq := aj; simp at hq; simp [a, b, m, w, z, i, f, e, g, k, j, ab, ac, q, o, ad, ae, v, u, af, ag, aa, y, ai, aj, hq]; done) | skip
            refine regv_skip (s1 := ?_) ?_ ?_ ?_
            rotate_left
            · simp [a, b, m, w, z, i, f, e, g, k, j, ab, ac, q, o, ad, ae, v, u, af, ag, aa, y, ai, aj]; done
            · simp [a, b, m, w, z, i, f, e, g, k, j, ab, ac, q, o, ad, ae, v, u, af, ag, aa, y, ai, aj]; rfl
            refine regv_skip (s1 := ?_) ?_ ?_ ?_
            rotate_left
            · simp [a, b, m, w, z, i, f, e, g, k, j, ab, ac, q, o, ad, ae, v, u, af, ag, aa, y, ai, aj]; done
            · simp [a, b, m, w, z, i, f, e, g, k, j, ab, ac, q, o, ad, ae, v, u, af, ag, aa, y, ai, aj]; rfl
            iterate 2
              refine regv_pure (s1 := ?_) rfl rfl ?_ ?_ ?_
              rotate_left
              · simp [a, b, m, w, z, i, f, e, g, k, j, ab, ac, q, o, ad, ae, v, u, af, ag, aa, y, ai, aj]; rfl
              · first | (simp [a, b, m, w, z, i, f, e, g, k, j, ab, ac, q, o, ad, ae, v, u, af, ag, aa, y, ai, aj] <;> omega) | (have hq := aj; simp at hq; simp [a, b, m, w, z, i, f, e, g, k, j, ab, ac, q, o, ad, ae, v, u, af, ag, aa, y, ai, aj, hq]; done) | skip
            refine regv_skip (s1 := ?_) ?_ ?_ ?_
            rotate_left
            · simp [a, b, m, w, z, i, f, e, g, k, j, ab, ac, q, o, ad, ae, v, u, af, ag, aa, y, ai, aj]; done
            · simp [a, b, m, w, z, i, f, e, g, k, j, ab, ac, q, o, ad, ae, v, u, af, ag, aa, y, ai, aj]; rfl
            refine regv_skip (s1 := ?_) ?_ ?_ ?_
            rotate_left
            · simp [a, b, m, w, z, i, f, e, g, k, j, ab, ac, q, o, ad, ae, v, u, af, ag, aa, y, ai, aj]; done
            · simp [a, b, m, w, z, i, f, e, g, k, j, ab, ac, q, o, ad, ae, v, u, af, ag, aa, y, ai, aj]; rfl
            refine regv_skip (s1 := ?_) ?_ ?_ ?_
            rotate_left
            · simp [a, b, m, w, z, i, f, e, g, k, j, ab, ac, q, o, ad, ae, v, u, af, ag, aa, y, ai, aj]; done
            · simp [a, b, m, w, z, i, f, e, g, k, j, ab, ac, q, o, ad, ae, v, u, af, ag, aa, y, ai, aj]; rfl
            refine regv_skip (s1 := ?_) ?_ ?_ ?_
            rotate_left
            · simp [a, b, m, w, z, i, f, e, g, k, j, ab, ac, q, o, ad, ae, v, u, af, ag, aa, y, ai, aj]; done
            · simp [a, b, m, w, z, i, f, e, g, k, j, ab, ac, q, o, ad, ae, v, u, af, ag, aa, y, ai, aj]; rfl
            refine regv_skip (s1 := ?_) ?_ ?_ ?_
            rotate_left
            · simp [a, b, m, w, z, i, f, e, g, k, j, ab, ac, q, o, ad, ae, v, u, af, ag, aa, y, ai, aj]; done
            · simp [a, b, m, w, z, i, f, e, g, k, j, ab, ac, q, o, ad, ae, v, u, af, ag, aa, y, ai, aj]; rfl
            iterate 2
              refine regv_pure (s1 := ?_) rfl rfl ?_ ?_ ?_
              rotate_left
              · simp [a, b, m, w, z, i, f, e, g, k, j, ab, ac, q, o, ad, ae, v, u, af, ag, aa, y, ai, aj]; rfl
              · first | (simp [a, b, m, w, z, i, f, e, g, k, j, ab, ac, q, o, ad, ae, v, u, af, ag, aa, y, ai, aj] <;> omega) | (have hq := aj; simp at hq; simp [a, b, m, w, z, i, f, e, g, k, j, ab, ac, q, o, ad, ae, v, u, af, ag, aa, y, ai, aj, hq]; done) | skip
            refine regv_skip (s1 := ?_) ?_ ?_ ?_
            rotate_left
            · simp [a, b, m, w, z, i, f, e, g, k, j, ab, ac, q, o, ad, ae, v, u, af, ag, aa, y, ai, aj]; done
            · simp [a, b, m, w, z, i, f, e, g, k, j, ab, ac, q, o, ad, ae, v, u, af, ag, aa, y, ai, aj]; rfl
            iterate 2
              refine regv_pure (s1 := ?_) rfl rfl ?_ ?_ ?_
              rotate_left
              · simp [a, b, m, w, z, i, f, e, g, k, j, ab, ac, q, o, ad, ae, v, u, af, ag, aa, y, ai, aj]; rfl
              · first | (simp [a, b, m, w, z, i, f, e, g, k, j, ab, ac, q, o, ad, ae, v, u, af, ag, aa, y, ai, aj] <;> omega) | (have hq := aj; simp at hq; simp [a, b, m, w, z, i, f, e, g, k, j, ab, ac, q, o, ad, ae, v, u, af, ag, aa, y, ai, aj, hq]; done) | skip
            refine regv_skip (s1 := ?_) ?_ ?_ ?_
            rotate_left
            · simp [a, b, m, w, z, i, f, e, g, k, j, ab, ac, q, o, ad, ae, v, u, af, ag, aa, y, ai, aj]; done
            · simp [a, b, m, w, z, i, f, e, g, k, j, ab, ac, q, o, ad, ae, v, u, af, ag, aa, y, ai, aj]; rfl
            refine regv_skip (s1 := ?_) ?_ ?_ ?_
            rotate_left
            · simp [a, b, m, w, z, i, f, e, g, k, j, ab, ac, q, o, ad, ae, v, u, af, ag, aa, y, ai, aj]; done
            · simp [a, b, m, w, z, i, f, e, g, k, j, ab, ac, q, o, ad, ae, v, u, af, ag, aa, y, ai, aj]; rfl
            refine regv_skip (s1 := ?_) ?_ ?_ ?_
            rotate_left
            · simp [a, b, m, w, z, i, f, e, g, k, j, ab, ac, q, o, ad, ae, v, u, af, ag, aa, y, ai, aj]; done
            · simp [a, b, m, w, z, i, f, e, g, k, j, ab, ac, q, o, ad, ae, v, u, af, ag, aa, y, ai, aj]; rfl
            iterate 2
              refine regv_pure (s1 := ?_) rfl rfl ?_ ?_ ?_
              rotate_left
              · simp [a, b, m, w, z, i, f, e, g, k, j, ab, ac, q, o, ad, ae, v, u, af, ag, aa, y, ai, aj]; rfl
              · first | (simp [a, b, m, w, z, i, f, e, g, k, j, ab, ac, q, o, ad, ae, v, u, af, ag, aa, y, ai, aj] <;> omega) | (have hq := aj; simp at hq; simp [a, b, m, w, z, i, f, e, g, k, j, ab, ac, q, o, ad, ae, v, u, af, ag, aa, y, ai, aj, hq]; done) | skip
            refine regv_nil ?_
            cases h
            refine Wp.ret (endQ_ret0 rfl ?_)
            repeat' first | exact All2.nil | refine All2.cons ?_ ?_ | refine AvLe.tups ?_ | refine AvLe.aggs ?_
            all_goals first
              | (exact AvLe.refl _ rfl)
              | (exact AvLe.nil _)
              | (exact AvLe.znil _)
              | (exact AvLe.ghost _ rfl)
              | (exact AvLe.zghost _ rfl)
              | (exact AvLe.sl' rfl (by simp [a, b, m, w, z, i, f, e, g, k, j, ab, ac, q, o, ad, ae, v, u, af, ag, aa, y, ai, aj]; done) (by simp [a, b, m, w, z, i, f, e, g, k, j, ab, ac, q, o, ad, ae, v, u, af, ag, aa, y, ai, aj]; done))
              | (exact AvLe.frz' rfl rfl rfl (by simp [a, b, m, w, z, i, f, e, g, k, j, ab, ac, q, o, ad, ae, v, u, af, ag, aa, y, ai, aj]; done) (by simp [a, b, m, w, z, i, f, e, g, k, j, ab, ac, q, o, ad, ae, v, u, af, ag, aa, y, ai, aj]; done) (by simp [a, b, m, w, z, i, f, e, g, k, j, ab, ac, q, o, ad, ae, v, u, af, ag, aa, y, ai, aj]; done))
              | (exact AvLe.list' (by simp [a, b, m, w, z, i, f, e, g, k, j, ab, ac, q, o, ad, ae, v, u, af, ag, aa, y, ai, aj]; done) (by simp [a, b, m, w, z, i, f, e, g, k, j, ab, ac, q, o, ad, ae, v, u, af, ag, aa, y, ai, aj]; done))
              | (exact AvLe.eq (by simp [a, b, m, w, z, i, f, e, g, k, j, ab, ac, q, o, ad, ae, v, u, af, ag, aa, y, ai, aj]; done) rfl)
          · rw [aj, if_pos rfl] at h
            refine regv_pure (s1 := ?_) rfl ?_ ?_ ?_ ?_
            rotate_left
            · simp [a, b, m, w, z, i, f, e, g, k, j, ab, ac, q, o, ad, ae, v, u, af, ag, aa, y, ai, aj]; done
            · simp [a, b, m, w, z, i, f, e, g, k, j, ab, ac, q, o, ad, ae, v, u, af, ag, aa, y, ai, aj]; rfl
            · first | (simp [a, b, m, w, z, i, f, e, g, k, j, ab, ac, q, o, ad, ae, v, u, af, ag, aa, y, ai, aj] <;> omega) | (have hq := aj; simp at hq; simp [a, b, m, w, z, i, f, e, g, k, j, ab, ac, q, o, ad, ae, v, u, af, ag, aa, y, ai, aj, hq]; done) | skip
            refine regv_pure (s1 := ?_) rfl ?_ ?_ ?_ ?_
            rotate_left
            · simp [a, b, m, w, z, i, f, e, g, k, j, ab, ac, q, o, ad, ae, v, u, af, ag, aa, y, ai, aj]; done
            · simp [a, b, m, w, z, i, f, e, g, k, j, ab, ac, q, o, ad, ae, v, u, af, ag, aa, y, ai, aj]; rfl
            · first | (simp [a, b, m, w, z, i, f, e, g, k, j, ab, ac, q, o, ad, ae, v, u, af, ag, aa, y, ai, aj] <;> omega) | (have hq := aj; simp at hq; simp [a, b, m, w, z, i, f, e, g, k, j, ab, ac, q, o, ad, ae, v, u, af, ag, aa, y, ai, aj, hq]; done) | skip
            iterate 2
              refine regv_pure (s1 := ?_) rfl rfl ?_ ?_ ?_
              rotate_left
              · simp [a, b, m, w, z, i, f, e, g, k, j, ab, ac, q, o, ad, ae, v, u, af, ag, aa, y, ai, aj]; rfl
              · first | (simp [a, b, m, w, z, i, f, e, g, k, j, ab, ac, q, o, ad, ae, v, u, af, ag, aa, y, ai, aj] <;> omega) | (have hq := aj; simp at hq; simp [a, b, m, w, z, i, f, e, g, k, j, ab, ac, q, o, ad, ae, v, u, af, ag, aa, y, ai, aj, hq]; done) | skip
            cases ak : (bw == 0)
            · rw [ak, if_neg (by simp)] at h
              refine regv_skip (s1 := ?_) ?_ ?_ ?_
              rotate_left
              · simp [a, b, m, w, z, i, f, e, g, k, j, ab, ac, q, o, ad, ae, v, u, af, ag, aa, y, ai, aj, ak]; done
              · simp [a, b, m, w, z, i, f, e, g, k, j, ab, ac, q, o, ad, ae, v, u, af, ag, aa, y, ai, aj, ak]; rfl
              refine regv_skip (s1 := ?_) ?_ ?_ ?_
              rotate_left
              · simp [a, b, m, w, z, i, f, e, g, k, j, ab, ac, q, o, ad, ae, v, u, af, ag, aa, y, ai, aj, ak]; done
              · simp [a, b, m, w, z, i, f, e, g, k, j, ab, ac, q, o, ad, ae, v, u, af, ag, aa, y, ai, aj, ak]; rfl
              iterate 2
                refine regv_pure (s1 := ?_) rfl rfl ?_ ?_ ?_
                rotate_left
                · simp [a, b, m, w, z, i, f, e, g, k, j, ab, ac, q, o, ad, ae, v, u, af, ag, aa, y, ai, aj, ak]; rfl
                · first | (simp [a, b, m, w, z, i, f, e, g, k, j, ab, ac, q, o, ad, ae, v, u, af, ag, aa, y, ai, aj, ak] <;> omega) | (have hq := ak; simp at hq; simp [a, b, m, w, z, i, f, e, g, k, j, ab, ac, q, o, ad, ae, v, u, af, ag, aa, y, ai, aj, ak, hq]; done) | skip
              refine regv_skip (s1 := ?_) ?_ ?_ ?_
              rotate_left
              · simp [a, b, m, w, z, i, f, e, g, k, j, ab, ac, q, o, ad, ae, v, u, af, ag, aa, y, ai, aj, ak]; done
              · simp [a, b, m, w, z, i, f, e, g, k, j, ab, ac, q, o, ad, ae, v, u, af, ag, aa, y, ai, aj, ak]; rfl
              refine regv_skip (s1 := ?_) ?_ ?_ ?_
              rotate_left
              · simp [a, b, m, w, z, i, f, e, g, k, j, ab, ac, q, o, ad, ae, v, u, af, ag, aa, y, ai, aj, ak]; done
              · simp [a, b, m, w, z, i, f, e, g, k, j, ab, ac, q, o, ad, ae, v, u, af, ag, aa, y, ai, aj, ak]; rfl
              iterate 2
                refine regv_pure (s1 := ?_) rfl rfl ?_ ?_ ?_
                rotate_left
                · simp [a, b, m, w, z, i, f, e, g, k, j, ab, ac, q, o, ad, ae, v, u, af, ag, aa, y, ai, aj, ak]; rfl
                · first | (simp [a, b, m, w, z, i, f, e, g, k, j, ab, ac, q, o, ad, ae, v, u, af, ag, aa, y, ai, aj, ak] <;> omega) | (have hq := ak; simp at hq; simp [a, b, m, w, z, i, f, e, g, k, j, ab, ac, q, o, ad, ae, v, u, af, ag, aa, y, ai, aj, ak, hq]; done) | skip
              refine regv_skip (s1 := ?_) ?_ ?_ ?_
              rotate_left
              · simp [a, b, m, w, z, i, f, e, g, k, j, ab, ac, q, o, ad, ae, v, u, af, ag, aa, y, ai, aj, ak]; done
              · simp [a, b, m, w, z, i, f, e, g, k, j, ab, ac, q, o, ad, ae, v, u, af, ag, aa, y, ai, aj, ak]; rfl
              refine regv_skip (s1 := ?_) ?_ ?_ ?_
              rotate_left
              · simp [a, b, m, w, z, i, f, e, g, k, j, ab, ac, q, o, ad, ae, v, u, af, ag, aa, y, ai, aj, ak]; done
              · simp [a, b, m, w, z, i, f, e, g, k, j, ab, ac, q, o, ad, ae, v, u, af, ag, aa, y, ai, aj, ak]; rfl
              refine regv_skip (s1 := ?_) ?_ ?_ ?_
              rotate_left
              · simp [a, b, m, w, z, i, f, e, g, k, j, ab, ac, q, o, ad, ae, v, u, af, ag, aa, y, ai, aj, ak]; done
              · simp [a, b, m, w, z, i, f, e, g, k, j, ab, ac, q, o, ad, ae, v, u, af, ag, aa, y, ai, aj, ak]; rfl
              refine regv_skip (s1 := ?_) ?_ ?_ ?_
              rotate_left
              · simp [a, b, m, w, z, i, f, e, g, k, j, ab, ac, q, o, ad, ae, v, u, af, ag, aa, y, ai, aj, ak]; done
              · simp [a, b, m, w, z, i, f, e, g, k, j, ab, ac, q, o, ad, ae, v, u, af, ag, aa, y, ai, aj, ak]; rfl
              refine regv_skip (s1 := ?_) ?_ ?_ ?_
              rotate_left
              · simp [a, b, m, w, z, i, f, e, g, k, j, ab, ac, q, o, ad, ae, v, u, af, ag, aa, y, ai, aj, ak]; done
              · simp [a, b, m, w, z, i, f, e, g, k, j, ab, ac, q, o, ad, ae, v, u, af, ag, aa, y, ai, aj, ak]; rfl
              iterate 2
                refine regv_pure (s1 := ?_) rfl rfl ?_ ?_ ?_
                rotate_left
                · simp [a, b, m, w, z, i, f, e, g, k, j, ab, ac, q, o, ad, ae, v, u, af, ag, aa, y, ai, aj, ak]; rfl
                · first | (simp [a, b, m, w, z, i, f, e, g, k, j, ab, ac, q, o, ad, ae, v, u, af, ag, aa, y, ai, aj, ak] <;> omega) | (have hq := ak; simp at hq; simp [a, b, m, w, z, i, f, e, g, k, j, ab, ac, q, o, ad, ae, v, u, af, ag, aa, y, ai, aj, ak, hq]; done) | skip
              refine regv_skip (s1 := ?_) ?_ ?_ ?_
              rotate_left
              · simp [a, b, m, w, z, i, f, e, g, k, j, ab, ac, q, o, ad, ae, v, u, af, ag, aa, y, ai, aj, ak]; done
              · simp [a, b, m, w, z, i, f, e, g, k, j, ab, ac, q, o, ad, ae, v, u, af, ag, aa, y, ai, aj, ak]; rfl
              iterate 2
                refine regv_pure (s1 := ?_) rfl rfl ?_ ?_ ?_
                rotate_left
                · simp [a, b, m, w, z, i, f, e, g, k, j, ab, ac, q, o, ad, ae, v, u, af, ag, aa, y, ai, aj, ak]; rfl
                · first | (simp [a, b, m, w, z, i, f, e, g, k, j, ab, ac, q, o, ad, ae, v, u, af, ag, aa, y, ai, aj, ak] <;> omega) | (have hq := ak; simp at hq; simp [a, b, m, w, z, i, f, e, g, k, j, ab, ac, q, o, ad, ae, v, u, af, ag, aa, y, ai, aj, ak, hq]; done) | skip
              refine regv_skip (s1 := ?_) ?_ ?_ ?_
              rotate_left
              · simp [a, b, m, w, z, i, f, e, g, k, j, ab, ac, q, o, ad, ae, v, u, af, ag, aa, y, ai, aj, ak]; done
              · simp [a, b, m, w, z, i, f, e, g, k, j, ab, ac, q, o, ad, ae, v, u, af, ag, aa, y, ai, aj, ak]; rfl
              refine regv_skip (s1 := ?_) ?_ ?_ ?_
              rotate_left
              · simp [a, b, m, w, z, i, f, e, g, k, j, ab, ac, q, o, ad, ae, v, u, af, ag, aa, y, ai, aj, ak]; done
              · simp [a, b, m, w, z, i, f, e, g, k, j, ab, ac, q, o, ad, ae, v, u, af, ag, aa, y, ai, aj, ak]; rfl
              refine regv_skip (s1 := ?_) ?_ ?_ ?_
              rotate_left
              · simp [a, b, m, w, z, i, f, e, g, k, j, ab, ac, q, o, ad, ae, v, u, af, ag, aa, y, ai, aj, ak]; done
              · simp [a, b, m, w, z, i, f, e, g, k, j, ab, ac, q, o, ad, ae, v, u, af, ag, aa, y, ai, aj, ak]; rfl
              iterate 2
                refine regv_pure (s1 := ?_) rfl rfl ?_ ?_ ?_
                rotate_left
                · simp [a, b, m, w, z, i, f, e, g, k, j, ab, ac, q, o, ad, ae, v, u, af, ag, aa, y, ai, aj, ak]; rfl
                · first | (simp [a, b, m, w, z, i, f, e, g, k, j, ab, ac, q, o, ad, ae, v, u, af, ag, aa, y, ai, aj, ak] <;> omega) | (have hq := ak; simp at hq; simp [a, b, m, w, z, i, f, e, g, k, j, ab, ac, q, o, ad, ae, v, u, af, ag, aa, y, ai, aj, ak, hq]; done) | skip
              refine regv_nil ?_
              cases h
              refine Wp.ret (endQ_ret0 rfl ?_)
              repeat' first | exact All2.nil | refine All2.cons ?_ ?_ | refine AvLe.tups ?_ | refine AvLe.aggs ?_
              all_goals first
                | (exact AvLe.refl _ rfl)
                | (exact AvLe.nil _)
                | (exact AvLe.znil _)
                | (exact AvLe.ghost _ rfl)
                | (exact AvLe.zghost _ rfl)
                | (exact AvLe.sl' rfl (by simp [a, b, m, w, z, i, f, e, g, k, j, ab, ac, q, o, ad, ae, v, u, af, ag, aa, y, ai, aj, ak]; done) (by simp [a, b, m, w, z, i, f, e, g, k, j, ab, ac, q, o, ad, ae, v, u, af, ag, aa, y, ai, aj, ak]; done))
                | (exact AvLe.frz' rfl rfl rfl (by simp [a, b, m, w, z, i, f, e, g, k, j, ab, ac, q, o, ad, ae, v, u, af, ag, aa, y, ai, aj, ak]; done) (by simp [a, b, m, w, z, i, f, e, g, k, j, ab, ac, q, o, ad, ae, v, u, af, ag, aa, y, ai, aj, ak]; done) (by simp [a, b, m, w, z, i, f, e, g, k, j, ab, ac, q, o, ad, ae, v, u, af, ag, aa, y, ai, aj, ak]; done))
                | (exact AvLe.list' (by simp [a, b, m, w, z, i, f, e, g, k, j, ab, ac, q, o, ad, ae, v, u, af, ag, aa, y, ai, aj, ak]; done) (by simp [a, b, m, w, z, i, f, e, g, k, j, ab, ac, q, o, ad, ae, v, u, af, ag, aa, y, ai, aj, ak]; done))
                | (exact AvLe.eq (by simp [a, b, m, w, z, i, f, e, g, k, j, ab, ac, q, o, ad, ae, v, u, af, ag, aa, y, ai, aj, ak]; done) rfl)
            · rw [ak, if_pos rfl] at h
              refine regv_pure (s1 := ?_) rfl ?_ ?_ ?_ ?_
              rotate_left
              · simp [a, b, m, w, z, i, f, e, g, k, j, ab, ac, q, o, ad, ae, v, u, af, ag, aa, y, ai, aj, ak]; done
              · simp [a, b, m, w, z, i, f, e, g, k, j, ab, ac, q, o, ad, ae, v, u, af, ag, aa, y, ai, aj, ak]; rfl
              · first | (simp [a, b, m, w, z, i, f, e, g, k, j, ab, ac, q, o, ad, ae, v, u, af, ag, aa, y, ai, aj, ak] <;> omega) | (have hq := ak; simp at hq; simp [a, b, m, w, z, i, f, e, g, k, j, ab, ac, q, o, ad, ae, v, u, af, ag, aa, y, ai, aj, ak, hq]; done) | skip
              refine regv_pure (s1 := ?_) rfl ?_ ?_ ?_ ?_
              rotate_left
              · simp [a, b, m, w, z, i, f, e, g, k, j, ab, ac, q, o, ad, ae, v, u, af, ag, aa, y, ai, aj, ak]; done
              · simp [a, b, m, w, z, i, f, e, g, k, j, ab, ac, q, o, ad, ae, v, u, af, ag, aa, y, ai, aj, ak]; rfl
              · first | (simp [a, b, m, w, z, i, f, e, g, k, j, ab, ac, q, o, ad, ae, v, u, af, ag, aa, y, ai, aj, ak] <;> omega) | (have hq := ak; simp at hq; simp [a, b, m, w, z, i, f, e, g, k, j, ab, ac, q, o, ad, ae, v, u, af, ag, aa, y, ai, aj, ak, hq]; done) | skip
              iterate 2
                refine regv_pure (s1 := ?_) rfl rfl ?_ ?_ ?_
                rotate_left
                · simp [a, b, m, w, z, i, f, e, g, k, j, ab, ac, q, o, ad, ae, v, u, af, ag, aa, y, ai, aj, ak]; rfl
                · first | (simp [a, b, m, w, z, i, f, e, g, k, j, ab, ac, q, o, ad, ae, v, u, af, ag, aa, y, ai, aj, ak] <;> omega) | (have hq := ak; simp at hq; simp [a, b, m, w, z, i, f, e, g, k, j, ab, ac, q, o, ad, ae, v, u, af, ag, aa, y, ai, aj, ak, hq]; done) | skip
              cases am : (bz == 0)
              · rw [am, if_neg (by simp)] at h
                refine regv_skip (s1 := ?_) ?_ ?_ ?_
                rotate_left
                · simp [a, b, m, w, z, i, f, e, g, k, j, ab, ac, q, o, ad, ae, v, u, af, ag, aa, y, ai, aj, ak, am]; done
                · simp [a, b, m, w, z, i, f, e, g, k, j, ab, ac, q, o, ad, ae, v, u, af, ag, aa, y, ai, aj, ak, am]; rfl
                refine regv_skip (s1 := ?_) ?_ ?_ ?_
                rotate_left
                · simp [a, b, m, w, z, i, f, e, g, k, j, ab, ac, q, o, ad, ae, v, u, af, ag, aa, y, ai, aj, ak, am]; done
                · simp [a, b, m, w, z, i, f, e, g, k, j, ab, ac, q, o, ad, ae, v, u, af, ag, aa, y, ai, aj, ak, am]; rfl
                iterate 2
                  refine regv_pure (s1 := ?_) rfl rfl ?_ ?_ ?_
                  rotate_left
                  · simp [a, b, m, w, z, i, f, e, g, k, j, ab, ac, q, o, ad, ae, v, u, af, ag, aa, y, ai, aj, ak, am]; rfl
                  · first | (simp [a, b, m, w, z, i, f, e, g, k, j, ab, ac, q, o, ad, ae, v, u, af, ag, aa, y, ai, aj, ak, am] <;> omega) | (have hq := am; simp at hq; simp [a, b, m, w, z, i, f, e, g, k, j, ab, ac, q, o, ad, ae, v, u, af, ag, aa, y, ai, aj, ak, am, hq]; done) | skip
                refine regv_skip (s1 := ?_) ?_ ?_ ?_
                rotate_left
                · simp [a, b, m, w, z, i, f, e, g, k, j, ab, ac, q, o, ad, ae, v, u, af, ag, aa, y, ai, aj, ak, am]; done
                · simp [a, b, m, w, z, i, f, e, g, k, j, ab, ac, q, o, ad, ae, v, u, af, ag, aa, y, ai, aj, ak, am]; rfl
                refine regv_skip (s1 := ?_) ?_ ?_ ?_
                rotate_left
                · simp [a, b, m, w, z, i, f, e, g, k, j, ab, ac, q, o, ad, ae, v, u, af, ag, aa, y, ai, aj, ak, am]; done
                · simp [a, b, m, w, z, i, f, e, g, k, j, ab, ac, q, o, ad, ae, v, u, af, ag, aa, y, ai, aj, ak, am]; rfl
                refine regv_skip (s1 := ?_) ?_ ?_ ?_
                rotate_left
                · simp [a, b, m, w, z, i, f, e, g, k, j, ab, ac, q, o, ad, ae, v, u, af, ag, aa, y, ai, aj, ak, am]; done
                · simp [a, b, m, w, z, i, f, e, g, k, j, ab, ac, q, o, ad, ae, v, u, af, ag, aa, y, ai, aj, ak, am]; rfl
                refine regv_skip (s1 := ?_) ?_ ?_ ?_
                rotate_left
                · simp [a, b, m, w, z, i, f, e, g, k, j, ab, ac, q, o, ad, ae, v, u, af, ag, aa, y, ai, aj, ak, am]; done
                · simp [a, b, m, w, z, i, f, e, g, k, j, ab, ac, q, o, ad, ae, v, u, af, ag, aa, y, ai, aj, ak, am]; rfl
                refine regv_skip (s1 := ?_) ?_ ?_ ?_
                rotate_left
                · simp [a, b, m, w, z, i, f, e, g, k, j, ab, ac, q, o, ad, ae, v, u, af, ag, aa, y, ai, aj, ak, am]; done
                · simp [a, b, m, w, z, i, f, e, g, k, j, ab, ac, q, o, ad, ae, v, u, af, ag, aa, y, ai, aj, ak, am]; rfl
                iterate 2
                  refine regv_pure (s1 := ?_) rfl rfl ?_ ?_ ?_
                  rotate_left
                  · simp [a, b, m, w, z, i, f, e, g, k, j, ab, ac, q, o, ad, ae, v, u, af, ag, aa, y, ai, aj, ak, am]; rfl
                  · first | (simp [a, b, m, w, z, i, f, e, g, k, j, ab, ac, q, o, ad, ae, v, u, af, ag, aa, y, ai, aj, ak, am] <;> omega) | (have hq := am; simp at hq; simp [a, b, m, w, z, i, f, e, g, k, j, ab, ac, q, o, ad, ae, v, u, af, ag, aa, y, ai, aj, ak, am, hq]; done) | skip
                refine regv_skip (s1 := ?_) ?_ ?_ ?_
                rotate_left
                · simp [a, b, m, w, z, i, f, e, g, k, j, ab, ac, q, o, ad, ae, v, u, af, ag, aa, y, ai, aj, ak, am]; done
                · simp [a, b, m, w, z, i, f, e, g, k, j, ab, ac, q, o, ad, ae, v, u, af, ag, aa, y, ai, aj, ak, am]; rfl
                iterate 2
                  refine regv_pure (s1 := ?_) rfl rfl ?_ ?_ ?_
                  rotate_left
                  · simp [a, b, m, w, z, i, f, e, g, k, j, ab, ac, q, o, ad, ae, v, u, af, ag, aa, y, ai, aj, ak, am]; rfl
                  · first | (simp [a, b, m, w, z, i, f, e, g, k, j, ab, ac, q, o, ad, ae, v, u, af, ag, aa, y, ai, aj, ak, am] <;> omega) | (have hq := am; simp at hq; simp [a, b, m, w, z, i, f, e, g, k, j, ab, ac, q, o, ad, ae, v, u, af, ag, aa, y, ai, aj, ak, am, hq]; done) | skip
                refine regv_skip (s1 := ?_) ?_ ?_ ?_
                rotate_left
                · simp [a, b, m, w, z, i, f, e, g, k, j, ab, ac, q, o, ad, ae, v, u, af, ag, aa, y, ai, aj, ak, am]; done
                · simp [a, b, m, w, z, i, f, e, g, k, j, ab, ac, q, o, ad, ae, v, u, af, ag, aa, y, ai, aj, ak, am]; rfl
                refine regv_skip (s1 := ?_) ?_ ?_ ?_
                rotate_left
                · simp [a, b, m, w, z, i, f, e, g, k, j, ab, ac, q, o, ad, ae, v, u, af, ag, aa, y, ai, aj, ak, am]; done
                · simp [a, b, m, w, z, i, f, e, g, k, j, ab, ac, q, o, ad, ae, v, u, af, ag, aa, y, ai, aj, ak, am]; rfl
                refine regv_skip (s1 := ?_) ?_ ?_ ?_
                rotate_left
                · simp [a, b, m, w, z, i, f, e, g, k, j, ab, ac, q, o, ad, ae, v, u, af, ag, aa, y, ai, aj, ak, am]; done
                · simp [a, b, m, w, z, i, f, e, g, k, j, ab, ac, q, o, ad, ae, v, u, af, ag, aa, y, ai, aj, ak, am]; rfl
                iterate 2
                  refine regv_pure (s1 := ?_) rfl rfl ?_ ?_ ?_
                  rotate_left
                  · simp [a, b, m, w, z, i, f, e, g, k, j, ab, ac, q, o, ad, ae, v, u, af, ag, aa, y, ai, aj, ak, am]; rfl
                  · first | (simp [a, b, m, w, z, i, f, e, g, k, j, ab, ac, q, o, ad, ae, v, u, af, ag, aa, y, ai, aj, ak, am] <;> omega) | (have hq := am; simp at hq; simp [a, b, m, w, z, i, f, e, g, k, j, ab, ac, q, o, ad, ae, v, u, af, ag, aa, y, ai, aj, ak, am, hq]; done) | skip
                refine regv_nil ?_
                cases h
                refine Wp.ret (endQ_ret0 rfl ?_)
                repeat' first | exact All2.nil | refine All2.cons ?_ ?_ | refine AvLe.tups ?_ | refine AvLe.aggs ?_
                all_goals first
                  | (exact AvLe.refl _ rfl)
                  | (exact AvLe.nil _)
                  | (exact AvLe.znil _)
                  | (exact AvLe.ghost _ rfl)
                  | (exact AvLe.zghost _ rfl)
                  | (exact AvLe.sl' rfl (by simp [a, b, m, w, z, i, f, e, g, k, j, ab, ac, q, o, ad, ae, v, u, af, ag, aa, y, ai, aj, ak, am]; done) (by simp [a, b, m, w, z, i, f, e, g, k, j, ab, ac, q, o, ad, ae, v, u, af, ag, aa, y, ai, aj, ak, am]; done))
                  | (exact AvLe.frz' rfl rfl rfl (by simp [a, b, m, w, z, i, f, e, g, k, j, ab, ac, q, o, ad, ae, v, u, af, ag, aa, y, ai, aj, ak, am]; done) (by simp [a, b, m, w, z, i, f, e, g, k, j, ab, ac, q, o, ad, ae, v, u, af, ag, aa, y, ai, aj, ak, am]; done) (by simp [a, b, m, w, z, i, f, e, g, k, j, ab, ac, q, o, ad, ae, v, u, af, ag, aa, y, ai, aj, ak, am]; done))
                  | (exact AvLe.list' (by simp [a, b, m, w, z, i, f, e, g, k, j, ab, ac, q, o, ad, ae, v, u, af, ag, aa, y, ai, aj, ak, am]; done) (by simp [a, b, m, w, z, i, f, e, g, k, j, ab, ac, q, o, ad, ae, v, u, af, ag, aa, y, ai, aj, ak, am]; done))
                  | (exact AvLe.eq (by simp [a, b, m, w, z, i, f, e, g, k, j, ab, ac, q, o, ad, ae, v, u, af, ag, aa, y, ai, aj, ak, am]; done) rfl)
              · rw [am, if_pos rfl] at h
                refine regv_pure (s1 := ?_) rfl ?_ ?_ ?_ ?_
                rotate_left
                · simp [a, b, m, w, z, i, f, e, g, k, j, ab, ac, q, o, ad, ae, v, u, af, ag, aa, y, ai, aj, ak, am]; done
                · simp [a, b, m, w, z, i, f, e, g, k, j, ab, ac, q, o, ad, ae, v, u, af, ag, aa, y, ai, aj, ak, am]; rfl
                · first | (simp [a, b, m, w, z, i, f, e, g, k, j, ab, ac, q, o, ad, ae, v, u, af, ag, aa, y, ai, aj, ak, am] <;> omega) | (have hq := am; simp at hq; simp [a, b, m, w, z, i, f, e, g, k, j, ab, ac, q, o, ad, ae, v, u, af, ag, aa, y, ai, aj, ak, am, hq]; done) | skip
                refine regv_pure (s1 := ?_) rfl ?_ ?_ ?_ ?_
                rotate_left
                · simp [a, b, m, w, z, i, f, e, g, k, j, ab, ac, q, o, ad, ae, v, u, af, ag, aa, y, ai, aj, ak, am]; done
                · simp [a, b, m, w, z, i, f, e, g, k, j, ab, ac, q, o, ad, ae, v, u, af, ag, aa, y, ai, aj, ak, am]; rfl
                · first | (simp [a, b, m, w, z, i, f, e, g, k, j, ab, ac, q, o, ad, ae, v, u, af, ag, aa, y, ai, aj, ak, am] <;> omega) | (have hq := am; simp at hq; simp [a, b, m, w, z, i, f, e, g, k, j, ab, ac, q, o, ad, ae, v, u, af, ag, aa, y, ai, aj, ak, am, hq]; done) | skip
                iterate 2
                  refine regv_pure (s1 := ?_) rfl rfl ?_ ?_ ?_
                  rotate_left
                  · simp [a, b, m, w, z, i, f, e, g, k, j, ab, ac, q, o, ad, ae, v, u, af, ag, aa, y, ai, aj, ak, am]; rfl
                  · first | (simp [a, b, m, w, z, i, f, e, g, k, j, ab, ac, q, o, ad, ae, v, u, af, ag, aa, y, ai, aj, ak, am] <;> omega) | (have hq := am; simp at hq; simp [a, b, m, w, z, i, f, e, g, k, j, ab, ac, q, o, ad, ae, v, u, af, ag, aa, y, ai, aj, ak, am, hq]; done) | skip
                cases ao : (ca == 0)
                · rw [ao, if_neg (by simp)] at h
                  refine regv_skip (s1 := ?_) ?_ ?_ ?_
                  rotate_left
                  · simp [a, b, m, w, z, i, f, e, g, k, j, ab, ac, q, o, ad, ae, v, u, af, ag, aa, y, ai, aj, ak, am, ao]; done
                  · simp [a, b, m, w, z, i, f, e, g, k, j, ab, ac, q, o, ad, ae, v, u, af, ag, aa, y, ai, aj, ak, am, ao]; rfl
                  refine regv_skip (s1 := ?_) ?_ ?_ ?_
                  rotate_left
                  · simp [a, b, m, w, z, i, f, e, g, k, j, ab, ac, q, o, ad, ae, v, u, af, ag, aa, y, ai, aj, ak, am, ao]; done
                  · simp [a, b, m, w, z, i, f, e, g, k, j, ab, ac, q, o, ad, ae, v, u, af, ag, aa, y, ai, aj, ak, am, ao]; rfl
                  refine regv_skip (s1 := ?_) ?_ ?_ ?_
                  rotate_left
                  · simp [a, b, m, w, z, i, f, e, g, k, j, ab, ac, q, o, ad, ae, v, u, af, ag, aa, y, ai, aj, ak, am, ao]; done
                  · simp [a, b, m, w, z, i, f, e, g, k, j, ab, ac, q, o, ad, ae, v, u, af, ag, aa, y, ai, aj, ak, am, ao]; rfl
                  refine regv_skip (s1 := ?_) ?_ ?_ ?_
                  rotate_left
                  · simp [a, b, m, w, z, i, f, e, g, k, j, ab, ac, q, o, ad, ae, v, u, af, ag, aa, y, ai, aj, ak, am, ao]; done
                  · simp [a, b, m, w, z, i, f, e, g, k, j, ab, ac, q, o, ad, ae, v, u, af, ag, aa, y, ai, aj, ak, am, ao]; rfl
                  refine regv_skip (s1 := ?_) ?_ ?_ ?_
                  rotate_left
                  · simp [a, b, m, w, z, i, f, e, g, k, j, ab, ac, q, o, ad, ae, v, u, af, ag, aa, y, ai, aj, ak, am, ao]; done
                  · simp [a, b, m, w, z, i, f, e, g, k, j, ab, ac, q, o, ad, ae, v, u, af, ag, aa, y, ai, aj, ak, am, ao]; rfl
                  iterate 2
                    refine regv_pure (s1 := ?_) rfl rfl ?_ ?_ ?_
                    rotate_left
                    · simp [a, b, m, w, z, i, f, e, g, k, j, ab, ac, q, o, ad, ae, v, u, af, ag, aa, y, ai, aj, ak, am, ao]; rfl
                    · first | (simp [a, b, m, w, z, i, f, e, g, k, j, ab, ac, q, o, ad, ae, v, u, af, ag, aa, y, ai, aj, ak, am, ao] <;> omega) | (have hq := ao; simp at hq; simp [a, b, m, w, z, i, f, e, g, k, j, ab, ac, q, o, ad, ae, v, u, af, ag, aa, y, ai, aj, ak, am, ao, hq]; done) | skip
                  refine regv_skip (s1 := ?_) ?_ ?_ ?_
                  rotate_left
                  · simp [a, b, m, w, z, i, f, e, g, k, j, ab, ac, q, o, ad, ae, v, u, af, ag, aa, y, ai, aj, ak, am, ao]; done
                  · simp [a, b, m, w, z, i, f, e, g, k, j, ab, ac, q, o, ad, ae, v, u, af, ag, aa, y, ai, aj, ak, am, ao]; rfl
                  iterate 2
                    refine regv_pure (s1 := ?_) rfl rfl ?_ ?_ ?_
                    rotate_left
                    · simp [a, b, m, w, z, i, f, e, g, k, j, ab, ac, q, o, ad, ae, v, u, af, ag, aa, y, ai, aj, ak, am, ao]; rfl
                    · first | (simp [a, b, m, w, z, i, f, e, g, k, j, ab, ac, q, o, ad, ae, v, u, af, ag, aa, y, ai, aj, ak, am, ao] <;> omega) | (have hq := ao; simp at hq; simp [a, b, m, w, z, i, f, e, g, k, j, ab, ac, q, o, ad, ae, v, u, af, ag, aa, y, ai, aj, ak, am, ao, hq]; done) | skip
                  refine regv_skip (s1 := ?_) ?_ ?_ ?_
                  rotate_left
                  · simp [a, b, m, w, z, i, f, e, g, k, j, ab, ac, q, o, ad, ae, v, u, af, ag, aa, y, ai, aj, ak, am, ao]; done
                  · simp [a, b, m, w, z, i, f, e, g, k, j, ab, ac, q, o, ad, ae, v, u, af, ag, aa, y, ai, aj, ak, am, ao]; rfl
                  refine regv_skip (s1 := ?_) ?_ ?_ ?_
                  rotate_left
                  · simp [a, b, m, w, z, i, f, e, g, k, j, ab, ac, q, o, ad, ae, v, u, af, ag, aa, y, ai, aj, ak, am, ao]; done
                  · simp [a, b, m, w, z, i, f, e, g, k, j, ab, ac, q, o, ad, ae, v, u, af, ag, aa, y, ai, aj, ak, am, ao]; rfl
                  refine regv_skip (s1 := ?_) ?_ ?_ ?_
                  rotate_left
                  · simp [a, b, m, w, z, i, f, e, g, k, j, ab, ac, q, o, ad, ae, v, u, af, ag, aa, y, ai, aj, ak, am, ao]; done
                  · simp [a, b, m, w, z, i, f, e, g, k, j, ab, ac, q, o, ad, ae, v, u, af, ag, aa, y, ai, aj, ak, am, ao]; rfl
                  iterate 2
                    refine regv_pure (s1 := ?_) rfl rfl ?_ ?_ ?_
                    rotate_left
                    · simp [a, b, m, w, z, i, f, e, g, k, j, ab, ac, q, o, ad, ae, v, u, af, ag, aa, y, ai, aj, ak, am, ao]; rfl
                    · first | (simp [a, b, m, w, z, i, f, e, g, k, j, ab, ac, q, o, ad, ae, v, u, af, ag, aa, y, ai, aj, ak, am, ao] <;> omega) | (have hq := ao; simp at hq; simp [a, b, m, w, z, i, f, e, g, k, j, ab, ac, q, o, ad, ae, v, u, af, ag, aa, y, ai, aj, ak, am, ao, hq]; done) | skip
                  refine regv_nil ?_
                  cases h
                  refine Wp.ret (endQ_ret0 rfl ?_)
                  repeat' first | exact All2.nil | refine All2.cons ?_ ?_ | refine AvLe.tups ?_ | refine AvLe.aggs ?_
                  all_goals first
                    | (exact AvLe.refl _ rfl)
                    | (exact AvLe.nil _)
                    | (exact AvLe.znil _)
                    | (exact AvLe.ghost _ rfl)
                    | (exact AvLe.zghost _ rfl)
                    | (exact AvLe.sl' rfl (by simp [a, b, m, w, z, i, f, e, g, k, j, ab, ac, q, o, ad, ae, v, u, af, ag, aa, y, ai, aj, ak, am, ao]; done) (by simp [a, b, m, w, z, i, f, e, g, k, j, ab, ac, q, o, ad, ae, v, u, af, ag, aa, y, ai, aj, ak, am, ao]; done))
                    | (exact AvLe.frz' rfl rfl rfl (by simp [a, b, m, w, z, i, f, e, g, k, j, ab, ac, q, o, ad, ae, v, u, af, ag, aa, y, ai, aj, ak, am, ao]; done) (by simp [a, b, m, w, z, i, f, e, g, k, j, ab, ac, q, o, ad, ae, v, u, af, ag, aa, y, ai, aj, ak, am, ao]; done) (by simp [a, b, m, w, z, i, f, e, g, k, j, ab, ac, q, o, ad, ae, v, u, af, ag, aa, y, ai, aj, ak, am, ao]; done))
                    | (exact AvLe.list' (by simp [a, b, m, w, z, i, f, e, g, k, j, ab, ac, q, o, ad, ae, v, u, af, ag, aa, y, ai, aj, ak, am, ao]; done) (by simp [a, b, m, w, z, i, f, e, g, k, j, ab, ac, q, o, ad, ae, v, u, af, ag, aa, y, ai, aj, ak, am, ao]; done))
                    | (exact AvLe.eq (by simp [a, b, m, w, z, i, f, e, g, k, j, ab, ac, q, o, ad, ae, v, u, af, ag, aa, y, ai, aj, ak, am, ao]; done) rfl)
                · rw [ao, if_pos rfl] at h
                  refine regv_pure (s1 := ?_) rfl ?_ ?_ ?_ ?_
                  rotate_left
                  · simp [a, b, m, w, z, i, f, e, g, k, j, ab, ac, q, o, ad, ae, v, u, af, ag, aa, y, ai, aj, ak, am, ao]; done
                  · simp [a, b, m, w, z, i, f, e, g, k, j, ab, ac, q, o, ad, ae, v, u, af, ag, aa, y, ai, aj, ak, am, ao]; rfl
                  · first | (simp [a, b, m, w, z, i, f, e, g, k, j, ab, ac, q, o, ad, ae, v, u, af, ag, aa, y, ai, aj, ak, am, ao] <;> omega) | (have hq := ao; simp at hq; simp [a, b, m, w, z, i, f, e, g, k, j, ab, ac, q, o, ad, ae, v, u, af, ag, aa, y, ai, aj, ak, am, ao, hq]; done) | skip
                  refine regv_pure (s1 := ?_) rfl ?_ ?_ ?_ ?_
                  rotate_left
                  · simp [a, b, m, w, z, i, f, e, g, k, j, ab, ac, q, o, ad, ae, v, u, af, ag, aa, y, ai, aj, ak, am, ao]; done
                  · simp [a, b, m, w, z, i, f, e, g, k, j, ab, ac, q, o, ad, ae, v, u, af, ag, aa, y, ai, aj, ak, am, ao]; rfl
                  · first | (simp [a, b, m, w, z, i, f, e, g, k, j, ab, ac, q, o, ad, ae, v, u, af, ag, aa, y, ai, aj, ak, am, ao] <;> omega) | (have hq := ao; simp at hq; simp [a, b, m, w, z, i, f, e, g, k, j, ab, ac, q, o, ad, ae, v, u, af, ag, aa, y, ai, aj, ak, am, ao, hq]; done) | skip
                  refine regv_pure (s1 := ?_) rfl ?_ ?_ ?_ ?_
                  rotate_left
                  · simp [a, b, m, w, z, i, f, e, g, k, j, ab, ac, q, o, ad, ae, v, u, af, ag, aa, y, ai, aj, ak, am, ao]; done
                  · simp [a, b, m, w, z, i, f, e, g, k, j, ab, ac, q, o, ad, ae, v, u, af, ag, aa, y, ai, aj, ak, am, ao]; rfl
                  · first | (simp [a, b, m, w, z, i, f, e, g, k, j, ab, ac, q, o, ad, ae, v, u, af, ag, aa, y, ai, aj, ak, am, ao] <;> omega) | (have hq := ao; simp at hq; simp [a, b, m, w, z, i, f, e, g, k, j, ab, ac, q, o, ad, ae, v, u, af, ag, aa, y, ai, aj, ak, am, ao, hq]; done) | skip
                  cases ap : (!bq)
                  · rw [ap, if_neg (by simp)] at h
                    refine regv_pure (s1 := ?_) rfl ?_ ?_ ?_ ?_
                    rotate_left
                    · simp [a, b, m, w, z, i, f, e, g, k, j, ab, ac, q, o, ad, ae, v, u, af, ag, aa, y, ai, aj, ak, am, ao, ap]; done
                    · simp [a, b, m, w, z, i, f, e, g, k, j, ab, ac, q, o, ad, ae, v, u, af, ag, aa, y, ai, aj, ak, am, ao, ap]; rfl
                    · first | (simp [a, b, m, w, z, i, f, e, g, k, j, ab, ac, q, o, ad, ae, v, u, af, ag, aa, y, ai, aj, ak, am, ao, ap] <;> omega) | (have hq := ap; simp at hq; simp [a, b, m, w, z, i, f, e, g, k, j, ab, ac, q, o, ad, ae, v, u, af, ag, aa, y, ai, aj, ak, am, ao, ap, hq]; done) | skip
                    refine regv_pure (s1 := ?_) rfl ?_ ?_ ?_ ?_
                    rotate_left
                    · simp [a, b, m, w, z, i, f, e, g, k, j, ab, ac, q, o, ad, ae, v, u, af, ag, aa, y, ai, aj, ak, am, ao, ap]; done
                    · simp [a, b, m, w, z, i, f, e, g, k, j, ab, ac, q, o, ad, ae, v, u, af, ag, aa, y, ai, aj, ak, am, ao, ap]; rfl
                    · first | (simp [a, b, m, w, z, i, f, e, g, k, j, ab, ac, q, o, ad, ae, v, u, af, ag, aa, y, ai, aj, ak, am, ao, ap] <;> omega) | (have hq := ap; simp at hq; simp [a, b, m, w, z, i, f, e, g, k, j, ab, ac, q, o, ad, ae, v, u, af, ag, aa, y, ai, aj, ak, am, ao, ap, hq]; done) | skip
                    iterate 2
                      refine regv_pure (s1 := ?_) rfl rfl ?_ ?_ ?_
                      rotate_left
                      · simp [a, b, m, w, z, i, f, e, g, k, j, ab, ac, q, o, ad, ae, v, u, af, ag, aa, y, ai, aj, ak, am, ao, ap]; rfl
                      · first | (simp [a, b, m, w, z, i, f, e, g, k, j, ab, ac, q, o, ad, ae, v, u, af, ag, aa, y, ai, aj, ak, am, ao, ap] <;> omega) | (have hq := ap; simp at hq; simp [a, b, m, w, z, i, f, e, g, k, j, ab, ac, q, o, ad, ae, v, u, af, ag, aa, y, ai, aj, ak, am, ao, ap, hq]; done) | skip
                    cases aq : bv
                    · rw [aq, if_neg (by simp)] at h
                      refine regv_skip (s1 := ?_) ?_ ?_ ?_
                      rotate_left
                      · simp [a, b, m, w, z, i, f, e, g, k, j, ab, ac, q, o, ad, ae, v, u, af, ag, aa, y, ai, aj, ak, am, ao, ap, aq]; done
                      · simp [a, b, m, w, z, i, f, e, g, k, j, ab, ac, q, o, ad, ae, v, u, af, ag, aa, y, ai, aj, ak, am, ao, ap, aq]; rfl
                      iterate 2
                        refine regv_pure (s1 := ?_) rfl rfl ?_ ?_ ?_
                        rotate_left
                        · simp [a, b, m, w, z, i, f, e, g, k, j, ab, ac, q, o, ad, ae, v, u, af, ag, aa, y, ai, aj, ak, am, ao, ap, aq]; rfl
                        · first | (simp [a, b, m, w, z, i, f, e, g, k, j, ab, ac, q, o, ad, ae, v, u, af, ag, aa, y, ai, aj, ak, am, ao, ap, aq] <;> omega) | (have hq := aq; simp at hq; simp [a, b, m, w, z, i, f, e, g, k, j, ab, ac, q, o, ad, ae, v, u, af, ag, aa, y, ai, aj, ak, am, ao, ap, aq, hq]; done) | skip
                      refine regv_skip (s1 := ?_) ?_ ?_ ?_
                      rotate_left
                      · simp [a, b, m, w, z, i, f, e, g, k, j, ab, ac, q, o, ad, ae, v, u, af, ag, aa, y, ai, aj, ak, am, ao, ap, aq]; done
                      · simp [a, b, m, w, z, i, f, e, g, k, j, ab, ac, q, o, ad, ae, v, u, af, ag, aa, y, ai, aj, ak, am, ao, ap, aq]; rfl
                      refine regv_skip (s1 := ?_) ?_ ?_ ?_
                      rotate_left
                      · simp [a, b, m, w, z, i, f, e, g, k, j, ab, ac, q, o, ad, ae, v, u, af, ag, aa, y, ai, aj, ak, am, ao, ap, aq]; done
                      · simp [a, b, m, w, z, i, f, e, g, k, j, ab, ac, q, o, ad, ae, v, u, af, ag, aa, y, ai, aj, ak, am, ao, ap, aq]; rfl
                      refine regv_skip (s1 := ?_) ?_ ?_ ?_
                      rotate_left
                      · simp [a, b, m, w, z, i, f, e, g, k, j, ab, ac, q, o, ad, ae, v, u, af, ag, aa, y, ai, aj, ak, am, ao, ap, aq]; done
                      · simp [a, b, m, w, z, i, f, e, g, k, j, ab, ac, q, o, ad, ae, v, u, af, ag, aa, y, ai, aj, ak, am, ao, ap, aq]; rfl
                      iterate 2
                        refine regv_pure (s1 := ?_) rfl rfl ?_ ?_ ?_
                        rotate_left
                        · simp [a, b, m, w, z, i, f, e, g, k, j, ab, ac, q, o, ad, ae, v, u, af, ag, aa, y, ai, aj, ak, am, ao, ap, aq]; rfl
                        · first | (simp [a, b, m, w, z, i, f, e, g, k, j, ab, ac, q, o, ad, ae, v, u, af, ag, aa, y, ai, aj, ak, am, ao, ap, aq] <;> omega) | (have hq := aq; simp at hq; simp [a, b, m, w, z, i, f, e, g, k, j, ab, ac, q, o, ad, ae, v, u, af, ag, aa, y, ai, aj, ak, am, ao, ap, aq, hq]; done) | skip
                      refine regv_nil ?_
                      cases h
                      refine Wp.ret (endQ_ret0 rfl ?_)
                      repeat' first | exact All2.nil | refine All2.cons ?_ ?_ | refine AvLe.tups ?_ | refine AvLe.aggs ?_
                      all_goals first
                        | (exact AvLe.refl _ rfl)
                        | (exact AvLe.nil _)
                        | (exact AvLe.znil _)
                        | (exact AvLe.ghost _ rfl)
                        | (exact AvLe.zghost _ rfl)
                        | (exact AvLe.sl' rfl (by simp [a, b, m, w, z, i, f, e, g, k, j, ab, ac, q, o, ad, ae, v, u, af, ag, aa, y, ai, aj, ak, am, ao, ap, aq]; done) (by simp [a, b, m, w, z, i, f, e, g, k, j, ab, ac, q, o, ad, ae, v, u, af, ag, aa, y, ai, aj, ak, am, ao, ap, aq]; done))
                        | (exact AvLe.frz' rfl rfl rfl (by simp [a, b, m, w, z, i, f, e, g, k, j, ab, ac, q, o, ad, ae, v, u, af, ag, aa, y, ai, aj, ak, am, ao, ap, aq]; done) (by simp [a, b, m, w, z, i, f, e, g, k, j, ab, ac, q, o, ad, ae, v, u, af, ag, aa, y, ai, aj, ak, am, ao, ap, aq]; done) (by simp [a, b, m, w, z, i, f, e, g, k, j, ab, ac, q, o, ad, ae, v, u, af, ag, aa, y, ai, aj, ak, am, ao, ap, aq]; done))
                        | (exact AvLe.list' (by simp [a, b, m, w, z, i, f, e, g, k, j, ab, ac, q, o, ad, ae, v, u, af, ag, aa, y, ai, aj, ak, am, ao, ap, aq]; done) (by simp [a, b, m, w, z, i, f, e, g, k, j, ab, ac, q, o, ad, ae, v, u, af, ag, aa, y, ai, aj, ak, am, ao, ap, aq]; done))
                        | (exact AvLe.eq (by simp [a, b, m, w, z, i, f, e, g, k, j, ab, ac, q, o, ad, ae, v, u, af, ag, aa, y, ai, aj, ak, am, ao, ap, aq]; done) rfl)
                    · rw [aq, if_pos rfl] at h
                      refine regv_pure (s1 := ?_) rfl ?_ ?_ ?_ ?_
                      rotate_left
                      · simp [a, b, m, w, z, i, f, e, g, k, j, ab, ac, q, o, ad, ae, v, u, af, ag, aa, y, ai, aj, ak, am, ao, ap, aq]; done
                      · simp [a, b, m, w, z, i, f, e, g, k, j, ab, ac, q, o, ad, ae, v, u, af, ag, aa, y, ai, aj, ak, am, ao, ap, aq]; rfl
                      · first | (simp [a, b, m, w, z, i, f, e, g, k, j, ab, ac, q, o, ad, ae, v, u, af, ag, aa, y, ai, aj, ak, am, ao, ap, aq] <;> omega) | (have hq := aq; simp at hq; simp [a, b, m, w, z, i, f, e, g, k, j, ab, ac, q, o, ad, ae, v, u, af, ag, aa, y, ai, aj, ak, am, ao, ap, aq, hq]; done) | skip
                      iterate 2
                        refine regv_pure (s1 := ?_) rfl rfl ?_ ?_ ?_
                        rotate_left
                        · simp [a, b, m, w, z, i, f, e, g, k, j, ab, ac, q, o, ad, ae, v, u, af, ag, aa, y, ai, aj, ak, am, ao, ap, aq]; rfl
                        · first | (simp [a, b, m, w, z, i, f, e, g, k, j, ab, ac, q, o, ad, ae, v, u, af, ag, aa, y, ai, aj, ak, am, ao, ap, aq] <;> omega) | (have hq := aq; simp at hq; simp [a, b, m, w, z, i, f, e, g, k, j, ab, ac, q, o, ad, ae, v, u, af, ag, aa, y, ai, aj, ak, am, ao, ap, aq, hq]; done) | skip
                      cases au : bb
                      · rw [au, if_neg (by simp)] at h
                        refine regv_skip (s1 := ?_) ?_ ?_ ?_
                        rotate_left
                        · simp [a, b, m, w, z, i, f, e, g, k, j, ab, ac, q, o, ad, ae, v, u, af, ag, aa, y, ai, aj, ak, am, ao, ap, aq, au]; done
                        · simp [a, b, m, w, z, i, f, e, g, k, j, ab, ac, q, o, ad, ae, v, u, af, ag, aa, y, ai, aj, ak, am, ao, ap, aq, au]; rfl
                        refine regv_skip (s1 := ?_) ?_ ?_ ?_
                        rotate_left
                        · simp [a, b, m, w, z, i, f, e, g, k, j, ab, ac, q, o, ad, ae, v, u, af, ag, aa, y, ai, aj, ak, am, ao, ap, aq, au]; done
                        · simp [a, b, m, w, z, i, f, e, g, k, j, ab, ac, q, o, ad, ae, v, u, af, ag, aa, y, ai, aj, ak, am, ao, ap, aq, au]; rfl
                        refine regv_skip (s1 := ?_) ?_ ?_ ?_
                        rotate_left
                        · simp [a, b, m, w, z, i, f, e, g, k, j, ab, ac, q, o, ad, ae, v, u, af, ag, aa, y, ai, aj, ak, am, ao, ap, aq, au]; done
                        · simp [a, b, m, w, z, i, f, e, g, k, j, ab, ac, q, o, ad, ae, v, u, af, ag, aa, y, ai, aj, ak, am, ao, ap, aq, au]; rfl
                        iterate 2
                          refine regv_pure (s1 := ?_) rfl rfl ?_ ?_ ?_
                          rotate_left
                          · simp [a, b, m, w, z, i, f, e, g, k, j, ab, ac, q, o, ad, ae, v, u, af, ag, aa, y, ai, aj, ak, am, ao, ap, aq, au]; rfl
                          · first | (simp [a, b, m, w, z, i, f, e, g, k, j, ab, ac, q, o, ad, ae, v, u, af, ag, aa, y, ai, aj, ak, am, ao, ap, aq, au] <;> omega) | (have hq := au; simp at hq; simp [a, b, m, w, z, i, f, e, g, k, j, ab, ac, q, o, ad, ae, v, u, af, ag, aa, y, ai, aj, ak, am, ao, ap, aq, au, hq]; done) | skip
                        refine regv_nil ?_
                        cases h
                        refine Wp.ret (endQ_ret0 rfl ?_)
                        repeat' first | exact All2.nil | refine All2.cons ?_ ?_ | refine AvLe.tups ?_ | refine AvLe.aggs ?_
                        all_goals first
                          | (exact AvLe.refl _ rfl)
                          | (exact AvLe.nil _)
                          | (exact AvLe.znil _)
                          | (exact AvLe.ghost _ rfl)
                          | (exact AvLe.zghost _ rfl)
                          | (exact AvLe.sl' rfl (by simp [a, b, m, w, z, i, f, e, g, k, j, ab, ac, q, o, ad, ae, v, u, af, ag, aa, y, ai, aj, ak, am, ao, ap, aq, au]; done) (by simp [a, b, m, w, z, i, f, e, g, k, j, ab, ac, q, o, ad, ae, v, u, af, ag, aa, y, ai, aj, ak, am, ao, ap, aq, au]; done))
                          | (exact AvLe.frz' rfl rfl rfl (by simp [a, b, m, w, z, i, f, e, g, k, j, ab, ac, q, o, ad, ae, v, u, af, ag, aa, y, ai, aj, ak, am, ao, ap, aq, au]; done) (by simp [a, b, m, w, z, i, f, e, g, k, j, ab, ac, q, o, ad, ae, v, u, af, ag, aa, y, ai, aj, ak, am, ao, ap, aq, au]; done) (by simp [a, b, m, w, z, i, f, e, g, k, j, ab, ac, q, o, ad, ae, v, u, af, ag, aa, y, ai, aj, ak, am, ao, ap, aq, au]; done))
                          | (exact AvLe.list' (by simp [a, b, m, w, z, i, f, e, g, k, j, ab, ac, q, o, ad, ae, v, u, af, ag, aa, y, ai, aj, ak, am, ao, ap, aq, au]; done) (by simp [a, b, m, w, z, i, f, e, g, k, j, ab, ac, q, o, ad, ae, v, u, af, ag, aa, y, ai, aj, ak, am, ao, ap, aq, au]; done))
                          | (exact AvLe.eq (by simp [a, b, m, w, z, i, f, e, g, k, j, ab, ac, q, o, ad, ae, v, u, af, ag, aa, y, ai, aj, ak, am, ao, ap, aq, au]; done) rfl)
                      · rw [au, if_pos rfl] at h
                        refine regv_pure (s1 := ?_) rfl ?_ ?_ ?_ ?_
                        rotate_left
                        · simp [a, b, m, w, z, i, f, e, g, k, j, ab, ac, q, o, ad, ae, v, u, af, ag, aa, y, ai, aj, ak, am, ao, ap, aq, au]; done
                        · simp [a, b, m, w, z, i, f, e, g, k, j, ab, ac, q, o, ad, ae, v, u, af, ag, aa, y, ai, aj, ak, am, ao, ap, aq, au]; rfl
                        · first | (simp [a, b, m, w, z, i, f, e, g, k, j, ab, ac, q, o, ad, ae, v, u, af, ag, aa, y, ai, aj, ak, am, ao, ap, aq, au] <;> omega) | (have hq := au; simp at hq; simp [a, b, m, w, z, i, f, e, g, k, j, ab, ac, q, o, ad, ae, v, u, af, ag, aa, y, ai, aj, ak, am, ao, ap, aq, au, hq]; done) | skip
                        refine regv_pure (s1 := ?_) rfl ?_ ?_ ?_ ?_
                        rotate_left
                        · simp [a, b, m, w, z, i, f, e, g, k, j, ab, ac, q, o, ad, ae, v, u, af, ag, aa, y, ai, aj, ak, am, ao, ap, aq, au]; done
                        · simp [a, b, m, w, z, i, f, e, g, k, j, ab, ac, q, o, ad, ae, v, u, af, ag, aa, y, ai, aj, ak, am, ao, ap, aq, au]; rfl
                        · first | (simp [a, b, m, w, z, i, f, e, g, k, j, ab, ac, q, o, ad, ae, v, u, af, ag, aa, y, ai, aj, ak, am, ao, ap, aq, au] <;> omega) | (have hq := au; simp at hq; simp [a, b, m, w, z, i, f, e, g, k, j, ab, ac, q, o, ad, ae, v, u, af, ag, aa, y, ai, aj, ak, am, ao, ap, aq, au, hq]; done) | skip
                        refine regv_pure (s1 := ?_) rfl ?_ ?_ ?_ ?_
                        rotate_left
                        · simp [a, b, m, w, z, i, f, e, g, k, j, ab, ac, q, o, ad, ae, v, u, af, ag, aa, y, ai, aj, ak, am, ao, ap, aq, au]; done
                        · simp [a, b, m, w, z, i, f, e, g, k, j, ab, ac, q, o, ad, ae, v, u, af, ag, aa, y, ai, aj, ak, am, ao, ap, aq, au]; rfl
                        · first | (simp [a, b, m, w, z, i, f, e, g, k, j, ab, ac, q, o, ad, ae, v, u, af, ag, aa, y, ai, aj, ak, am, ao, ap, aq, au] <;> omega) | (have hq := au; simp at hq; simp [a, b, m, w, z, i, f, e, g, k, j, ab, ac, q, o, ad, ae, v, u, af, ag, aa, y, ai, aj, ak, am, ao, ap, aq, au, hq]; done) | skip
                        iterate 2
                          refine regv_pure (s1 := ?_) rfl rfl ?_ ?_ ?_
                          rotate_left
                          · simp [a, b, m, w, z, i, f, e, g, k, j, ab, ac, q, o, ad, ae, v, u, af, ag, aa, y, ai, aj, ak, am, ao, ap, aq, au]; rfl
                          · first | (simp [a, b, m, w, z, i, f, e, g, k, j, ab, ac, q, o, ad, ae, v, u, af, ag, aa, y, ai, aj, ak, am, ao, ap, aq, au] <;> omega) | (have hq := au; simp at hq; simp [a, b, m, w, z, i, f, e, g, k, j, ab, ac, q, o, ad, ae, v, u, af, ag, aa, y, ai, aj, ak, am, ao, ap, aq, au, hq]; done) | skip
                        refine regv_nil ?_
                        cases h
                        refine Wp.ret (endQ_ret0 rfl ?_)
                        repeat' first | exact All2.nil | refine All2.cons ?_ ?_ | refine AvLe.tups ?_ | refine AvLe.aggs ?_
                        all_goals first
                          | (exact AvLe.refl _ rfl)
                          | (exact AvLe.nil _)
                          | (exact AvLe.znil _)
                          | (exact AvLe.ghost _ rfl)
                          | (exact AvLe.zghost _ rfl)
                          | (exact AvLe.sl' rfl (by simp [a, b, m, w, z, i, f, e, g, k, j, ab, ac, q, o, ad, ae, v, u, af, ag, aa, y, ai, aj, ak, am, ao, ap, aq, au]; done) (by simp [a, b, m, w, z, i, f, e, g, k, j, ab, ac, q, o, ad, ae, v, u, af, ag, aa, y, ai, aj, ak, am, ao, ap, aq, au]; done))
                          | (exact AvLe.frz' rfl rfl rfl (by simp [a, b, m, w, z, i, f, e, g, k, j, ab, ac, q, o, ad, ae, v, u, af, ag, aa, y, ai, aj, ak, am, ao, ap, aq, au]; done) (by simp [a, b, m, w, z, i, f, e, g, k, j, ab, ac, q, o, ad, ae, v, u, af, ag, aa, y, ai, aj, ak, am, ao, ap, aq, au]; done) (by simp [a, b, m, w, z, i, f, e, g, k, j, ab, ac, q, o, ad, ae, v, u, af, ag, aa, y, ai, aj, ak, am, ao, ap, aq, au]; done))
                          | (exact AvLe.list' (by simp [a, b, m, w, z, i, f, e, g, k, j, ab, ac, q, o, ad, ae, v, u, af, ag, aa, y, ai, aj, ak, am, ao, ap, aq, au]; done) (by simp [a, b, m, w, z, i, f, e, g, k, j, ab, ac, q, o, ad, ae, v, u, af, ag, aa, y, ai, aj, ak, am, ao, ap, aq, au]; done))
                          | (exact AvLe.eq (by simp [a, b, m, w, z, i, f, e, g, k, j, ab, ac, q, o, ad, ae, v, u, af, ag, aa, y, ai, aj, ak, am, ao, ap, aq, au]; done) rfl)
                  · rw [ap, if_pos rfl] at h
                    refine regv_skip (s1 := ?_) ?_ ?_ ?_
                    rotate_left
                    · simp [a, b, m, w, z, i, f, e, g, k, j, ab, ac, q, o, ad, ae, v, u, af, ag, aa, y, ai, aj, ak, am, ao, ap]; done
                    · simp [a, b, m, w, z, i, f, e, g, k, j, ab, ac, q, o, ad, ae, v, u, af, ag, aa, y, ai, aj, ak, am, ao, ap]; rfl
                    refine regv_pure (s1 := ?_) rfl ?_ ?_ ?_ ?_
                    rotate_left
                    · simp [a, b, m, w, z, i, f, e, g, k, j, ab, ac, q, o, ad, ae, v, u, af, ag, aa, y, ai, aj, ak, am, ao, ap]; done
                    · simp [a, b, m, w, z, i, f, e, g, k, j, ab, ac, q, o, ad, ae, v, u, af, ag, aa, y, ai, aj, ak, am, ao, ap]; rfl
                    · first | (simp [a, b, m, w, z, i, f, e, g, k, j, ab, ac, q, o, ad, ae, v, u, af, ag, aa, y, ai, aj, ak, am, ao, ap] <;> omega) | (have hq := ap; simp at hq; simp [a, b, m, w, z, i, f, e, g, k, j, ab, ac, q, o, ad, ae, v, u, af, ag, aa, y, ai, aj, ak, am, ao, ap, hq]; done) | skip
                    iterate 2
                      refine regv_pure (s1 := ?_) rfl rfl ?_ ?_ ?_
                      rotate_left
                      · simp [a, b, m, w, z, i, f, e, g, k, j, ab, ac, q, o, ad, ae, v, u, af, ag, aa, y, ai, aj, ak, am, ao, ap]; rfl
                      · first | (simp [a, b, m, w, z, i, f, e, g, k, j, ab, ac, q, o, ad, ae, v, u, af, ag, aa, y, ai, aj, ak, am, ao, ap] <;> omega) | (have hq := ap; simp at hq; simp [a, b, m, w, z, i, f, e, g, k, j, ab, ac, q, o, ad, ae, v, u, af, ag, aa, y, ai, aj, ak, am, ao, ap, hq]; done) | skip
                    refine regv_pure (s1 := ?_) rfl ?_ ?_ ?_ ?_
                    rotate_left
                    · simp [a, b, m, w, z, i, f, e, g, k, j, ab, ac, q, o, ad, ae, v, u, af, ag, aa, y, ai, aj, ak, am, ao, ap]; done
                    · simp [a, b, m, w, z, i, f, e, g, k, j, ab, ac, q, o, ad, ae, v, u, af, ag, aa, y, ai, aj, ak, am, ao, ap]; rfl
                    · first | (simp [a, b, m, w, z, i, f, e, g, k, j, ab, ac, q, o, ad, ae, v, u, af, ag, aa, y, ai, aj, ak, am, ao, ap] <;> omega) | (have hq := ap; simp at hq; simp [a, b, m, w, z, i, f, e, g, k, j, ab, ac, q, o, ad, ae, v, u, af, ag, aa, y, ai, aj, ak, am, ao, ap, hq]; done) | skip
                    iterate 2
                      refine regv_pure (s1 := ?_) rfl rfl ?_ ?_ ?_
                      rotate_left
                      · simp [a, b, m, w, z, i, f, e, g, k, j, ab, ac, q, o, ad, ae, v, u, af, ag, aa, y, ai, aj, ak, am, ao, ap]; rfl
                      · first | (simp [a, b, m, w, z, i, f, e, g, k, j, ab, ac, q, o, ad, ae, v, u, af, ag, aa, y, ai, aj, ak, am, ao, ap] <;> omega) | (have hq := ap; simp at hq; simp [a, b, m, w, z, i, f, e, g, k, j, ab, ac, q, o, ad, ae, v, u, af, ag, aa, y, ai, aj, ak, am, ao, ap, hq]; done) | skip
                    cases av : bb
                    · rw [av, if_neg (by simp)] at h
                      refine regv_skip (s1 := ?_) ?_ ?_ ?_
                      rotate_left
                      · simp [a, b, m, w, z, i, f, e, g, k, j, ab, ac, q, o, ad, ae, v, u, af, ag, aa, y, ai, aj, ak, am, ao, ap, av]; done
                      · simp [a, b, m, w, z, i, f, e, g, k, j, ab, ac, q, o, ad, ae, v, u, af, ag, aa, y, ai, aj, ak, am, ao, ap, av]; rfl
                      refine regv_skip (s1 := ?_) ?_ ?_ ?_
                      rotate_left
                      · simp [a, b, m, w, z, i, f, e, g, k, j, ab, ac, q, o, ad, ae, v, u, af, ag, aa, y, ai, aj, ak, am, ao, ap, av]; done
                      · simp [a, b, m, w, z, i, f, e, g, k, j, ab, ac, q, o, ad, ae, v, u, af, ag, aa, y, ai, aj, ak, am, ao, ap, av]; rfl
                      refine regv_skip (s1 := ?_) ?_ ?_ ?_
                      rotate_left
                      · simp [a, b, m, w, z, i, f, e, g, k, j, ab, ac, q, o, ad, ae, v, u, af, ag, aa, y, ai, aj, ak, am, ao, ap, av]; done
                      · simp [a, b, m, w, z, i, f, e, g, k, j, ab, ac, q, o, ad, ae, v, u, af, ag, aa, y, ai, aj, ak, am, ao, ap, av]; rfl
                      iterate 2
                        refine regv_pure (s1 := ?_) rfl rfl ?_ ?_ ?_
                        rotate_left
                        · simp [a, b, m, w, z, i, f, e, g, k, j, ab, ac, q, o, ad, ae, v, u, af, ag, aa, y, ai, aj, ak, am, ao, ap, av]; rfl
                        · first | (simp [a, b, m, w, z, i, f, e, g, k, j, ab, ac, q, o, ad, ae, v, u, af, ag, aa, y, ai, aj, ak, am, ao, ap, av] <;> omega) | (have hq := av; simp at hq; simp [a, b, m, w, z, i, f, e, g, k, j, ab, ac, q, o, ad, ae, v, u, af, ag, aa, y, ai, aj, ak, am, ao, ap, av, hq]; done) | skip
                      refine regv_nil ?_
                      cases h
                      refine Wp.ret (endQ_ret0 rfl ?_)
                      repeat' first | exact All2.nil | refine All2.cons ?_ ?_ | refine AvLe.tups ?_ | refine AvLe.aggs ?_
                      all_goals first
                        | (exact AvLe.refl _ rfl)
                        | (exact AvLe.nil _)
                        | (exact AvLe.znil _)
                        | (exact AvLe.ghost _ rfl)
                        | (exact AvLe.zghost _ rfl)
                        | (exact AvLe.sl' rfl (by simp [a, b, m, w, z, i, f, e, g, k, j, ab, ac, q, o, ad, ae, v, u, af, ag, aa, y, ai, aj, ak, am, ao, ap, av]; done) (by simp [a, b, m, w, z, i, f, e, g, k, j, ab, ac, q, o, ad, ae, v, u, af, ag, aa, y, ai, aj, ak, am, ao, ap, av]; done))
                        | (exact AvLe.frz' rfl rfl rfl (by simp [a, b, m, w, z, i, f, e, g, k, j, ab, ac, q, o, ad, ae, v, u, af, ag, aa, y, ai, aj, ak, am, ao, ap, av]; done) (by simp [a, b, m, w, z, i, f, e, g, k, j, ab, ac, q, o, ad, ae, v, u, af, ag, aa, y, ai, aj, ak, am, ao, ap, av]; done) (by simp [a, b, m, w, z, i, f, e, g, k, j, ab, ac, q, o, ad, ae, v, u, af, ag, aa, y, ai, aj, ak, am, ao, ap, av]; done))
                        | (exact AvLe.list' (by simp [a, b, m, w, z, i, f, e, g, k, j, ab, ac, q, o, ad, ae, v, u, af, ag, aa, y, ai, aj, ak, am, ao, ap, av]; done) (by simp [a, b, m, w, z, i, f, e, g, k, j, ab, ac, q, o, ad, ae, v, u, af, ag, aa, y, ai, aj, ak, am, ao, ap, av]; done))
                        | (exact AvLe.eq (by simp [a, b, m, w, z, i, f, e, g, k, j, ab, ac, q, o, ad, ae, v, u, af, ag, aa, y, ai, aj, ak, am, ao, ap, av]; done) rfl)
                    · rw [av, if_pos rfl] at h
                      refine regv_pure (s1 := ?_) rfl ?_ ?_ ?_ ?_
                      rotate_left
                      · simp [a, b, m, w, z, i, f, e, g, k, j, ab, ac, q, o, ad, ae, v, u, af, ag, aa, y, ai, aj, ak, am, ao, ap, av]; done
                      · simp [a, b, m, w, z, i, f, e, g, k, j, ab, ac, q, o, ad, ae, v, u, af, ag, aa, y, ai, aj, ak, am, ao, ap, av]; rfl
                      · first | (simp [a, b, m, w, z, i, f, e, g, k, j, ab, ac, q, o, ad, ae, v, u, af, ag, aa, y, ai, aj, ak, am, ao, ap, av] <;> omega) | (have hq := av; simp at hq; simp [a, b, m, w, z, i, f, e, g, k, j, ab, ac, q, o, ad, ae, v, u, af, ag, aa, y, ai, aj, ak, am, ao, ap, av, hq]; done) | skip
                      refine regv_pure (s1 := ?_) rfl ?_ ?_ ?_ ?_
                      rotate_left
                      · simp [a, b, m, w, z, i, f, e, g, k, j, ab, ac, q, o, ad, ae, v, u, af, ag, aa, y, ai, aj, ak, am, ao, ap, av]; done
                      · simp [a, b, m, w, z, i, f, e, g, k, j, ab, ac, q, o, ad, ae, v, u, af, ag, aa, y, ai, aj, ak, am, ao, ap, av]; rfl
                      · first | (simp [a, b, m, w, z, i, f, e, g, k, j, ab, ac, q, o, ad, ae, v, u, af, ag, aa, y, ai, aj, ak, am, ao, ap, av] <;> omega) | (have hq := av; simp at hq; simp [a, b, m, w, z, i, f, e, g, k, j, ab, ac, q, o, ad, ae, v, u, af, ag, aa, y, ai, aj, ak, am, ao, ap, av, hq]; done) | skip
                      refine regv_pure (s1 := ?_) rfl ?_ ?_ ?_ ?_
                      rotate_left
                      · simp [a, b, m, w, z, i, f, e, g, k, j, ab, ac, q, o, ad, ae, v, u, af, ag, aa, y, ai, aj, ak, am, ao, ap, av]; done
                      · simp [a, b, m, w, z, i, f, e, g, k, j, ab, ac, q, o, ad, ae, v, u, af, ag, aa, y, ai, aj, ak, am, ao, ap, av]; rfl
                      · first | (simp [a, b, m, w, z, i, f, e, g, k, j, ab, ac, q, o, ad, ae, v, u, af, ag, aa, y, ai, aj, ak, am, ao, ap, av] <;> omega) | (have hq := av; simp at hq; simp [a, b, m, w, z, i, f, e, g, k, j, ab, ac, q, o, ad, ae, v, u, af, ag, aa, y, ai, aj, ak, am, ao, ap, av, hq]; done) | skip
                      iterate 2
                        refine regv_pure (s1 := ?_) rfl rfl ?_ ?_ ?_
                        rotate_left
                        · simp [a, b, m, w, z, i, f, e, g, k, j, ab, ac, q, o, ad, ae, v, u, af, ag, aa, y, ai, aj, ak, am, ao, ap, av]; rfl
                        · first | (simp [a, b, m, w, z, i, f, e, g, k, j, ab, ac, q, o, ad, ae, v, u, af, ag, aa, y, ai, aj, ak, am, ao, ap, av] <;> omega) | (have hq := av; simp at hq; simp [a, b, m, w, z, i, f, e, g, k, j, ab, ac, q, o, ad, ae, v, u, af, ag, aa, y, ai, aj, ak, am, ao, ap, av, hq]; done) | skip
                      refine regv_nil ?_
                      cases h
                      refine Wp.ret (endQ_ret0 rfl ?_)
                      repeat' first | exact All2.nil | refine All2.cons ?_ ?_ | refine AvLe.tups ?_ | refine AvLe.aggs ?_
                      all_goals first
                        | (exact AvLe.refl _ rfl)
                        | (exact AvLe.nil _)
                        | (exact AvLe.znil _)
                        | (exact AvLe.ghost _ rfl)
                        | (exact AvLe.zghost _ rfl)
                        | (exact AvLe.sl' rfl (by simp [a, b, m, w, z, i, f, e, g, k, j, ab, ac, q, o, ad, ae, v, u, af, ag, aa, y, ai, aj, ak, am, ao, ap, av]; done) (by simp [a, b, m, w, z, i, f, e, g, k, j, ab, ac, q, o, ad, ae, v, u, af, ag, aa, y, ai, aj, ak, am, ao, ap, av]; done))
                        | (exact AvLe.frz' rfl rfl rfl (by simp [a, b, m, w, z, i, f, e, g, k, j, ab, ac, q, o, ad, ae, v, u, af, ag, aa, y, ai, aj, ak, am, ao, ap, av]; done) (by simp [a, b, m, w, z, i, f, e, g, k, j, ab, ac, q, o, ad, ae, v, u, af, ag, aa, y, ai, aj, ak, am, ao, ap, av]; done) (by simp [a, b, m, w, z, i, f, e, g, k, j, ab, ac, q, o, ad, ae, v, u, af, ag, aa, y, ai, aj, ak, am, ao, ap, av]; done))
                        | (exact AvLe.list' (by simp [a, b, m, w, z, i, f, e, g, k, j, ab, ac, q, o, ad, ae, v, u, af, ag, aa, y, ai, aj, ak, am, ao, ap, av]; done) (by simp [a, b, m, w, z, i, f, e, g, k, j, ab, ac, q, o, ad, ae, v, u, af, ag, aa, y, ai, aj, ak, am, ao, ap, av]; done))
                        | (exact AvLe.eq (by simp [a, b, m, w, z, i, f, e, g, k, j, ab, ac, q, o, ad, ae, v, u, af, ag, aa, y, ai, aj, ak, am, ao, ap, av]; done) rfl)
      · rw [m, if_pos rfl] at h
        refine Wp.cond true (by first | (simp [a, b, m] <;> omega) | (have hq := m; simp at hq; simp [a, b, m, hq]; done)) (fun _ => ?_) (fun h0 => absurd h0 (by decide))
        refine Wp.reg_seq (own := fun _ => false) tt_ok ?_
        obtain ⟨cj, bk, h⟩ := obind h
        refine regv_call2 (s' := ?_) (p := ?_) (con_law16_alive bk) rfl rfl rfl rfl ?_ ?_ ?_ ?_ ?_ ?_
        rotate_left 2
        · simp [a, b, m]; rfl
        · first | exact .inl rfl | (refine .inl ?_; simp [a, b, m]; done) | (refine .inr ?_; dsimp only; repeat' first | exact All2.nil | refine All2.cons ?_ ?_) <;> first | exact AvLe.refl _ rfl | exact AvLe.nil _ | exact AvLe.znil _ | exact AvLe.list' (by simp [a, b, m]; done) (by simp [a, b, m]; done) | exact AvLe.eq (by simp [a, b, m]; done) rfl
        · first | (simp [a, b, m] <;> omega) | (have hq := m; simp at hq; simp [a, b, m, hq]; done) | skip
        · simp
        · simp [a, b, m]; rfl
        iterate 1
          refine regv_pure (s1 := ?_) rfl rfl ?_ ?_ ?_
          rotate_left
          · simp [a, b, m]; rfl
          · first | (simp [a, b, m] <;> omega) | (have hq := m; simp at hq; simp [a, b, m, hq]; done) | skip
        refine regv_nil ?_
        cases h
        refine Wp.ret (endQ_ret0 rfl ?_)
        repeat' first | exact All2.nil | refine All2.cons ?_ ?_ | refine AvLe.tups ?_ | refine AvLe.aggs ?_
        all_goals first
          | (exact AvLe.refl _ rfl)
          | (exact AvLe.nil _)
          | (exact AvLe.znil _)
          | (exact AvLe.ghost _ rfl)
          | (exact AvLe.zghost _ rfl)
          | (exact AvLe.sl' rfl (by simp [a, b, m]; done) (by simp [a, b, m]; done))
          | (exact AvLe.frz' rfl rfl rfl (by simp [a, b, m]; done) (by simp [a, b, m]; done) (by simp [a, b, m]; done))
          | (exact AvLe.list' (by simp [a, b, m]; done) (by simp [a, b, m]; done))
          | (exact AvLe.eq (by simp [a, b, m]; done) rfl)
    · rw [b, if_pos rfl] at h
      refine regv_skip (s1 := ?_) ?_ ?_ ?_
      rotate_left
      · simp [a, b]; done
      · simp [a, b]; rfl
      refine regv_skip (s1 := ?_) ?_ ?_ ?_
      rotate_left
      · simp [a, b]; done
      · simp [a, b]; rfl
      refine regv_skip (s1 := ?_) ?_ ?_ ?_
      rotate_left
      · simp [a, b]; done
      · simp [a, b]; rfl
      iterate 1
        refine regv_pure (s1 := ?_) rfl rfl ?_ ?_ ?_
        rotate_left
        · simp [a, b]; rfl
        · first | (simp [a, b] <;> omega) | (have hq := b; simp at hq; simp [a, b, hq]; done) | skip
      refine regv_nil ?_
      refine Wp.cond true (by first | (simp [a, b] <;> omega) | (have hq := b; simp at hq; simp [a, b, hq]; done)) (fun _ => ?_) (fun h0 => absurd h0 (by decide))
      refine Wp.reg_seq (own := fun _ => false) tt_ok ?_
      obtain ⟨ck, bm, h⟩ := obind h
      refine regv_call2 (s' := ?_) (p := ?_) (con_law16_alive bm) rfl rfl rfl rfl ?_ ?_ ?_ ?_ ?_ ?_
      rotate_left 2
      · simp [a, b]; rfl
      · first | exact .inl rfl | (refine .inl ?_; simp [a, b]; done) | (refine .inr ?_; dsimp only; repeat' first | exact All2.nil | refine All2.cons ?_ ?_) <;> first | exact AvLe.refl _ rfl | exact AvLe.nil _ | exact AvLe.znil _ | exact AvLe.list' (by simp [a, b]; done) (by simp [a, b]; done) | exact AvLe.eq (by simp [a, b]; done) rfl
      · first | (simp [a, b] <;> omega) | (have hq := b; simp at hq; simp [a, b, hq]; done) | skip
      · simp
      · simp [a, b]; rfl
      iterate 1
        refine regv_pure (s1 := ?_) rfl rfl ?_ ?_ ?_
        rotate_left
        · simp [a, b]; rfl
        · first | (simp [a, b] <;> omega) | (have hq := b; simp at hq; simp [a, b, hq]; done) | skip
      refine regv_nil ?_
      cases h
      refine Wp.ret (endQ_ret0 rfl ?_)
      repeat' first | exact All2.nil | refine All2.cons ?_ ?_ | refine AvLe.tups ?_ | refine AvLe.aggs ?_
      all_goals first
        | (exact AvLe.refl _ rfl)
        | (exact AvLe.nil _)
        | (exact AvLe.znil _)
        | (exact AvLe.ghost _ rfl)
        | (exact AvLe.zghost _ rfl)
        | (exact AvLe.sl' rfl (by simp [a, b]; done) (by simp [a, b]; done))
        | (exact AvLe.frz' rfl rfl rfl (by simp [a, b]; done) (by simp [a, b]; done) (by simp [a, b]; done))
        | (exact AvLe.list' (by simp [a, b]; done) (by simp [a, b]; done))
        | (exact AvLe.eq (by simp [a, b]; done) rfl)
  · rw [if_pos (decide_eq_true a)] at h
    refine regv_skip (s1 := ?_) ?_ ?_ ?_
    rotate_left
    · simp [a]; done
    · simp [a]; rfl
    refine regv_skip (s1 := ?_) ?_ ?_ ?_
    rotate_left
    · simp [a]; done
    · simp [a]; rfl
    refine regv_skip (s1 := ?_) ?_ ?_ ?_
    rotate_left
    · simp [a]; done
    · simp [a]; rfl
    refine regv_skip (s1 := ?_) ?_ ?_ ?_
    rotate_left
    · simp [a]; done
    · simp [a]; rfl
    refine regv_skip (s1 := ?_) ?_ ?_ ?_
    rotate_left
    · simp [a]; done
    · simp [a]; rfl
    refine regv_skip (s1 := ?_) ?_ ?_ ?_
    rotate_left
    · simp [a]; done
    · simp [a]; rfl
    iterate 2
      refine regv_pure (s1 := ?_) rfl rfl ?_ ?_ ?_
      rotate_left
      · simp [a]; rfl
      · first | (simp [a] <;> omega) | (have hq := a; simp at hq; simp [a, hq]; done) | skip
    refine regv_skip (s1 := ?_) ?_ ?_ ?_
    rotate_left
    · simp [a]; done
    · simp [a]; rfl
    refine regv_skip (s1 := ?_) ?_ ?_ ?_
    rotate_left
    · simp [a]; done
    · simp [a]; rfl
    refine regv_skip (s1 := ?_) ?_ ?_ ?_
    rotate_left
    · simp [a]; done
    · simp [a]; rfl
    iterate 1
      refine regv_pure (s1 := ?_) rfl rfl ?_ ?_ ?_
      rotate_left
      · simp [a]; rfl
      · first | (simp [a] <;> omega) | (have hq := a; simp at hq; simp [a, hq]; done) | skip
    refine regv_nil ?_
    refine Wp.cond true (by first | (simp [a] <;> omega) | (have hq := a; simp at hq; simp [a, hq]; done)) (fun _ => ?_) (fun h0 => absurd h0 (by decide))
    refine Wp.reg_seq (own := fun _ => false) tt_ok ?_
    obtain ⟨cm, bo, h⟩ := obind h
    refine regv_call2 (s' := ?_) (p := ?_) (con_law16_alive bo) rfl rfl rfl rfl ?_ ?_ ?_ ?_ ?_ ?_
    rotate_left 2
    · simp [a]; rfl
    · first | exact .inl rfl | (refine .inl ?_; simp [a]; done) | (refine .inr ?_; dsimp only; repeat' first | exact All2.nil | refine All2.cons ?_ ?_) <;> first | exact AvLe.refl _ rfl | exact AvLe.nil _ | exact AvLe.znil _ | exact AvLe.list' (by simp [a]; done) (by simp [a]; done) | exact AvLe.eq (by simp [a]; done) rfl
    · first | (simp [a] <;> omega) | (have hq := a; simp at hq; simp [a, hq]; done) | skip
    · simp
    · simp [a]; rfl
    iterate 1
      refine regv_pure (s1 := ?_) rfl rfl ?_ ?_ ?_
      rotate_left
      · simp [a]; rfl
      · first | (simp [a] <;> omega) | (have hq := a; simp at hq; simp [a, hq]; done) | skip
    refine regv_nil ?_
    cases h
    refine Wp.ret (endQ_ret0 rfl ?_)
    repeat' first | exact All2.nil | refine All2.cons ?_ ?_ | refine AvLe.tups ?_ | refine AvLe.aggs ?_
    all_goals first
      | (exact AvLe.refl _ rfl)
      | (exact AvLe.nil _)
      | (exact AvLe.znil _)
      | (exact AvLe.ghost _ rfl)
      | (exact AvLe.zghost _ rfl)
      | (exact AvLe.sl' rfl (by simp [a]; done) (by simp [a]; done))
      | (exact AvLe.frz' rfl rfl rfl (by simp [a]; done) (by simp [a]; done) (by simp [a]; done))
      | (exact AvLe.list' (by simp [a]; done) (by simp [a]; done))
      | (exact AvLe.eq (by simp [a]; done) rfl)

end Go.Proofs.Ytgbgmijighbfbaa

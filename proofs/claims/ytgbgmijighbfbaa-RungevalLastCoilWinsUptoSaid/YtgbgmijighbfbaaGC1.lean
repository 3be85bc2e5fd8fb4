/- Contracts: models of functions are right. No law is proved here. -/
import Derived.Test.YtgbgmijighbfbaaGC0
namespace Go.Proofs.Ytgbgmijighbfbaa
open Go.Av Go.G
attribute [local simp] runf guardA opf St.ev Go.Av.look St.setd constAV constAV0 opBin opLen intBin St.need lookT TT0 tab resA resOne resAll blt_dec ble_dec beq_dec isPure
attribute [local simp] opMakeSlice opCopy opIndexAddr opLoad opStore St.mem St.rows opUn calleeA toArgs toArg toArg0 toArgs0 shift shift0 shift1 splice cellsOf isFree ofCells TS.isAgg isCell strBin opConvert
attribute [local simp] opBuildSlice fillA opAppend eqC eqA cksB ckB St.newBox runI valKind withinB readsHp refsD refs noSl opFieldAddr opBuild placeOf Op.operands Call.operands opIndex opExtract opSlice opField partA
attribute [local simp] loA hiA lenA opMakeMap opLookup opMapUpdate keyOk findA_int findA_str putA_strB putA_strI putA_intB putA_intI mAV_length mAV_nil cA1 cA2 cA3 cA4
attribute [local simp] aL cI cB cS cL rw_map fz_rw fz_const dropRow_rw fz_append fz_set fz_copy fz_rows rowLen_rw rowsLen_nil rowsLen_cons rowsLen_append rowsLen_map rowsLen_take rowsLen_drop rowsLen_replicate take_map_len take_map_le drop_map_len take_drop_len chunks isScalar isScalar0
attribute [local congr] bind_congr1 map_congr1 cond_congr1
attribute [local simp] cApiAddr cApiContact cApiCoil cApiRung cApiState findA_ApiAddr putA_ApiAddr putA_ApiAddrB putA_ApiAddrI
set_option maxHeartbeats 4000000
set_option linter.unusedSimpArgs false
set_option linter.unusedVariables false

theorem con_law16_alive {n : Nat} {r : Bool} (h : law16_alive n  = some r) : Con Try.prog 11 [] (.bool r) [] := by
  refine con_of (T := TT0) tt_ok Try.func11 (c := _) (by unfold Try.f11; rfl) Try.ntmps11 (rs := [.tmp 0]) (by rw [Try.results11]) (by unfold Try.f11; rfl) (by simp) ?_
  simp only [argsCh]
  dsimp only [law16_alive] at h
  refine Wp.reg_seq (own := fun _ => false) tt_ok ?_
  iterate 1
    refine regv_pure (s1 := ?_) rfl rfl ?_ ?_ ?_
    rotate_left
    · simp []; rfl
    · first | (simp [] <;> omega) | skip
  refine regv_nil ?_
  refine Wp.reg_seq (own := fun _ => false) tt_ok ?_
  iterate 2
    refine regv_pure (s1 := ?_) rfl rfl ?_ ?_ ?_
    rotate_left
    · simp []; rfl
    · first | (simp [] <;> omega) | skip
  obtain ⟨bw, aw, h⟩ := obind h
  have a := congrArg (List.map cApiContact) (Option.some.inj aw)
  have b := (congrArg List.length (Option.some.inj aw)).symm
  try simp [] at a
  try simp [] at b
  clear aw
  try simp only [a]
  iterate 3
    refine regv_pure (s1 := ?_) rfl rfl ?_ ?_ ?_
    rotate_left
    · simp [a, b]; rfl
    · first | (simp [a, b] <;> omega) | (have hq := b; simp at hq; simp [a, b, hq]; done) | skip
  obtain ⟨bz, ay, h⟩ := obind h
  have e := congrArg (List.map cApiCoil) (Option.some.inj ay)
  have d := (congrArg List.length (Option.some.inj ay)).symm
  try simp [a, b] at e
  try simp [a, b] at d
  clear ay
  try simp only [e]
  iterate 3
    refine regv_pure (s1 := ?_) rfl rfl ?_ ?_ ?_
    rotate_left
    · simp [a, b, e, d]; rfl
    · first | (simp [a, b, e, d] <;> omega) | (have hq := d; simp at hq; simp [a, b, e, d, hq]; done) | skip
  refine regv_nil ?_
  refine Wp.reg_seq (own := fun _ => false) tt_ok ?_
  iterate 2
    refine regv_pure (s1 := ?_) rfl rfl ?_ ?_ ?_
    rotate_left
    · simp [a, b, e, d]; rfl
    · first | (simp [a, b, e, d] <;> omega) | (have hq := d; simp at hq; simp [a, b, e, d, hq]; done) | skip
  obtain ⟨ca, az, h⟩ := obind h
  have f := congrArg (List.map cB) (Option.some.inj az)
  have g := (congrArg List.length (Option.some.inj az)).symm
  try simp [a, b, e, d] at f
  try simp [a, b, e, d] at g
  clear az
  try simp only [f]
  iterate 1
    refine regv_pure (s1 := ?_) rfl rfl ?_ ?_ ?_
    rotate_left
    · simp [a, b, e, d, f, g]; rfl
    · first | (simp [a, b, e, d, f, g] <;> omega) | (have hq := g; simp at hq; simp [a, b, e, d, f, g, hq]; done) | skip
  obtain ⟨cb, ba, h⟩ := obind h
  have i := congrArg (List.map cB) (Option.some.inj ba)
  have j := (congrArg List.length (Option.some.inj ba)).symm
  try simp [a, b, e, d, f, g] at i
  try simp [a, b, e, d, f, g] at j
  clear ba
  try simp only [i]
  iterate 1
    refine regv_pure (s1 := ?_) rfl rfl ?_ ?_ ?_
    rotate_left
    · simp [a, b, e, d, f, g, i, j]; rfl
    · first | (simp [a, b, e, d, f, g, i, j] <;> omega) | (have hq := j; simp at hq; simp [a, b, e, d, f, g, i, j, hq]; done) | skip
  obtain ⟨cc, bb, h⟩ := obind h
  have m := congrArg (List.map cB) (Option.some.inj bb)
  have k := (congrArg List.length (Option.some.inj bb)).symm
  try simp [a, b, e, d, f, g, i, j] at m
  try simp [a, b, e, d, f, g, i, j] at k
  clear bb
  try simp only [m]
  iterate 1
    refine regv_pure (s1 := ?_) rfl rfl ?_ ?_ ?_
    rotate_left
    · simp [a, b, e, d, f, g, i, j, m, k]; rfl
    · first | (simp [a, b, e, d, f, g, i, j, m, k] <;> omega) | (have hq := k; simp at hq; simp [a, b, e, d, f, g, i, j, m, k, hq]; done) | skip
  obtain ⟨⟨bd, bk, bm⟩, be, h⟩ := obind h
  dsimp only at h
  refine regv_call2 (s' := ?_) (p := ?_) (con_rungeval_Scan be) rfl rfl rfl rfl ?_ ?_ ?_ ?_ ?_ ?_
  rotate_left 2
  · simp [a, b, e, d, f, g, i, j, m, k]; rfl
  · first | exact .inl rfl | (refine .inl ?_; simp [a, b, e, d, f, g, i, j, m, k]; done) | (refine .inr ?_; dsimp only; repeat' first | exact All2.nil | refine All2.cons ?_ ?_) <;> first | exact AvLe.refl _ rfl | exact AvLe.nil _ | exact AvLe.znil _ | exact AvLe.list' (by simp [a, b, e, d, f, g, i, j, m, k]; done) (by simp [a, b, e, d, f, g, i, j, m, k]; done) | exact AvLe.eq (by simp [a, b, e, d, f, g, i, j, m, k]; done) rfl
  · first | (simp [a, b, e, d, f, g, i, j, m, k] <;> omega) | (have hq := k; simp at hq; simp [a, b, e, d, f, g, i, j, m, k, hq]; done) | skip
  · simp
  · simp [a, b, e, d, f, g, i, j, m, k]; rfl
  iterate 8
    refine regv_pure (s1 := ?_) rfl rfl ?_ ?_ ?_
    rotate_left
    · simp [a, b, e, d, f, g, i, j, m, k]; rfl
    · first | (simp [a, b, e, d, f, g, i, j, m, k] <;> omega) | (have hq := k; simp at hq; simp [a, b, e, d, f, g, i, j, m, k, hq]; done) | skip
  refine regv_nil ?_
  refine Wp.reg_seq (own := fun _ => false) tt_ok ?_
  iterate 2
    refine regv_pure (s1 := ?_) rfl rfl ?_ ?_ ?_
    rotate_left
    · simp [a, b, e, d, f, g, i, j, m, k]; rfl
    · first | (simp [a, b, e, d, f, g, i, j, m, k] <;> omega) | (have hq := k; simp at hq; simp [a, b, e, d, f, g, i, j, m, k, hq]; done) | skip
  obtain ⟨cd, bc, h⟩ := obind h
  have q := congrArg (List.map cB) (Option.some.inj bc)
  have o := (congrArg List.length (Option.some.inj bc)).symm
  try simp [a, b, e, d, f, g, i, j, m, k] at q
  try simp [a, b, e, d, f, g, i, j, m, k] at o
  clear bc
  try simp only [q]
  iterate 1
    refine regv_pure (s1 := ?_) rfl rfl ?_ ?_ ?_
    rotate_left
    · simp [a, b, e, d, f, g, i, j, m, k, q, o]; rfl
    · first | (simp [a, b, e, d, f, g, i, j, m, k, q, o] <;> omega) | (have hq := o; simp at hq; simp [a, b, e, d, f, g, i, j, m, k, q, o, hq]; done) | skip
  obtain ⟨⟨bo, bp, bq⟩, bf, h⟩ := obind h
  dsimp only at h
  refine regv_call2 (s' := ?_) (p := ?_) (con_rungeval_Scan bf) rfl rfl rfl rfl ?_ ?_ ?_ ?_ ?_ ?_
  rotate_left 2
  · simp [a, b, e, d, f, g, i, j, m, k, q, o]; rfl
  · first | exact .inl rfl | (refine .inl ?_; simp [a, b, e, d, f, g, i, j, m, k, q, o]; done) | (refine .inr ?_; dsimp only; repeat' first | exact All2.nil | refine All2.cons ?_ ?_) <;> first | exact AvLe.refl _ rfl | exact AvLe.nil _ | exact AvLe.znil _ | exact AvLe.list' (by simp [a, b, e, d, f, g, i, j, m, k, q, o]; done) (by simp [a, b, e, d, f, g, i, j, m, k, q, o]; done) | exact AvLe.eq (by simp [a, b, e, d, f, g, i, j, m, k, q, o]; done) rfl
  · first | (simp [a, b, e, d, f, g, i, j, m, k, q, o] <;> omega) | (have hq := o; simp at hq; simp [a, b, e, d, f, g, i, j, m, k, q, o, hq]; done) | skip
  · simp
  · simp [a, b, e, d, f, g, i, j, m, k, q, o]; rfl
  iterate 8
    refine regv_pure (s1 := ?_) rfl rfl ?_ ?_ ?_
    rotate_left
    · simp [a, b, e, d, f, g, i, j, m, k, q, o]; rfl
    · first | (simp [a, b, e, d, f, g, i, j, m, k, q, o] <;> omega) | (have hq := o; simp at hq; simp [a, b, e, d, f, g, i, j, m, k, q, o, hq]; done) | skip
  refine regv_nil ?_
  refine Wp.reg_seq (own := fun _ => false) tt_ok ?_
  iterate 3
    refine regv_pure (s1 := ?_) rfl rfl ?_ ?_ ?_
    rotate_left
    · simp [a, b, e, d, f, g, i, j, m, k, q, o]; rfl
    · first | (simp [a, b, e, d, f, g, i, j, m, k, q, o] <;> omega) | (have hq := o; simp at hq; simp [a, b, e, d, f, g, i, j, m, k, q, o, hq]; done) | skip
  cases u : (bm == 0)
  · rw [u, if_neg (by simp)] at h
    refine regv_skip (s1 := ?_) ?_ ?_ ?_
    rotate_left
    · simp [a, b, e, d, f, g, i, j, m, k, q, o, u]; done
    · simp [a, b, e, d, f, g, i, j, m, k, q, o, u]; rfl
    iterate 2
      refine regv_pure (s1 := ?_) rfl rfl ?_ ?_ ?_
      rotate_left
      · simp [a, b, e, d, f, g, i, j, m, k, q, o, u]; rfl
      · first | (simp [a, b, e, d, f, g, i, j, m, k, q, o, u] <;> omega) | (have hq := u; simp at hq; simp [a, b, e, d, f, g, i, j, m, k, q, o, u, hq]; done) | skip
    refine regv_skip (s1 := ?_) ?_ ?_ ?_
    rotate_left
    · simp [a, b, e, d, f, g, i, j, m, k, q, o, u]; done
    · simp [a, b, e, d, f, g, i, j, m, k, q, o, u]; rfl
    refine regv_skip (s1 := ?_) ?_ ?_ ?_
    rotate_left
    · simp [a, b, e, d, f, g, i, j, m, k, q, o, u]; done
    · simp [a, b, e, d, f, g, i, j, m, k, q, o, u]; rfl
    refine regv_skip (s1 := ?_) ?_ ?_ ?_
    rotate_left
    · simp [a, b, e, d, f, g, i, j, m, k, q, o, u]; done
    · simp [a, b, e, d, f, g, i, j, m, k, q, o, u]; rfl
    refine regv_skip (s1 := ?_) ?_ ?_ ?_
    rotate_left
    · simp [a, b, e, d, f, g, i, j, m, k, q, o, u]; done
    · simp [a, b, e, d, f, g, i, j, m, k, q, o, u]; rfl
    iterate 2
      refine regv_pure (s1 := ?_) rfl rfl ?_ ?_ ?_
      rotate_left
      · simp [a, b, e, d, f, g, i, j, m, k, q, o, u]; rfl
      · first | (simp [a, b, e, d, f, g, i, j, m, k, q, o, u] <;> omega) | (have hq := u; simp at hq; simp [a, b, e, d, f, g, i, j, m, k, q, o, u, hq]; done) | skip
    refine regv_skip (s1 := ?_) ?_ ?_ ?_
    rotate_left
    · simp [a, b, e, d, f, g, i, j, m, k, q, o, u]; done
    · simp [a, b, e, d, f, g, i, j, m, k, q, o, u]; rfl
    refine regv_skip (s1 := ?_) ?_ ?_ ?_
    rotate_left
    · simp [a, b, e, d, f, g, i, j, m, k, q, o, u]; done
    · simp [a, b, e, d, f, g, i, j, m, k, q, o, u]; rfl
    refine regv_skip (s1 := ?_) ?_ ?_ ?_
    rotate_left
    · simp [a, b, e, d, f, g, i, j, m, k, q, o, u]; done
    · simp [a, b, e, d, f, g, i, j, m, k, q, o, u]; rfl
    refine regv_skip (s1 := ?_) ?_ ?_ ?_
    rotate_left
    · simp [a, b, e, d, f, g, i, j, m, k, q, o, u]; done
    · simp [a, b, e, d, f, g, i, j, m, k, q, o, u]; rfl
    iterate 2
      refine regv_pure (s1 := ?_) rfl rfl ?_ ?_ ?_
      rotate_left
      · simp [a, b, e, d, f, g, i, j, m, k, q, o, u]; rfl
      · first | (simp [a, b, e, d, f, g, i, j, m, k, q, o, u] <;> omega) | (have hq := u; simp at hq; simp [a, b, e, d, f, g, i, j, m, k, q, o, u, hq]; done) | skip
    refine regv_skip (s1 := ?_) ?_ ?_ ?_
    rotate_left
    · simp [a, b, e, d, f, g, i, j, m, k, q, o, u]; done
    · simp [a, b, e, d, f, g, i, j, m, k, q, o, u]; rfl
    refine regv_skip (s1 := ?_) ?_ ?_ ?_
    rotate_left
    · simp [a, b, e, d, f, g, i, j, m, k, q, o, u]; done
    · simp [a, b, e, d, f, g, i, j, m, k, q, o, u]; rfl
    refine regv_skip (s1 := ?_) ?_ ?_ ?_
    rotate_left
    · simp [a, b, e, d, f, g, i, j, m, k, q, o, u]; done
    · simp [a, b, e, d, f, g, i, j, m, k, q, o, u]; rfl
    refine regv_skip (s1 := ?_) ?_ ?_ ?_
    rotate_left
    · simp [a, b, e, d, f, g, i, j, m, k, q, o, u]; done
    · simp [a, b, e, d, f, g, i, j, m, k, q, o, u]; rfl
    iterate 2
      refine regv_pure (s1 := ?_) rfl rfl ?_ ?_ ?_
      rotate_left
      · simp [a, b, e, d, f, g, i, j, m, k, q, o, u]; rfl
      · first | (simp [a, b, e, d, f, g, i, j, m, k, q, o, u] <;> omega) | (have hq := u; simp at hq; simp [a, b, e, d, f, g, i, j, m, k, q, o, u, hq]; done) | skip
    refine regv_skip (s1 := ?_) ?_ ?_ ?_
    rotate_left
    · simp [a, b, e, d, f, g, i, j, m, k, q, o, u]; done
    · simp [a, b, e, d, f, g, i, j, m, k, q, o, u]; rfl
    refine regv_skip (s1 := ?_) ?_ ?_ ?_
    rotate_left
    · simp [a, b, e, d, f, g, i, j, m, k, q, o, u]; done
    · simp [a, b, e, d, f, g, i, j, m, k, q, o, u]; rfl
    refine regv_skip (s1 := ?_) ?_ ?_ ?_
    rotate_left
    · simp [a, b, e, d, f, g, i, j, m, k, q, o, u]; done
    · simp [a, b, e, d, f, g, i, j, m, k, q, o, u]; rfl
    refine regv_skip (s1 := ?_) ?_ ?_ ?_
    rotate_left
    · simp [a, b, e, d, f, g, i, j, m, k, q, o, u]; done
    · simp [a, b, e, d, f, g, i, j, m, k, q, o, u]; rfl
    iterate 2
      refine regv_pure (s1 := ?_) rfl rfl ?_ ?_ ?_
      rotate_left
      · simp [a, b, e, d, f, g, i, j, m, k, q, o, u]; rfl
      · first | (simp [a, b, e, d, f, g, i, j, m, k, q, o, u] <;> omega) | (have hq := u; simp at hq; simp [a, b, e, d, f, g, i, j, m, k, q, o, u, hq]; done) | skip
    refine regv_skip (s1 := ?_) ?_ ?_ ?_
    rotate_left
    · simp [a, b, e, d, f, g, i, j, m, k, q, o, u]; done
    · simp [a, b, e, d, f, g, i, j, m, k, q, o, u]; rfl
    refine regv_skip (s1 := ?_) ?_ ?_ ?_
    rotate_left
    · simp [a, b, e, d, f, g, i, j, m, k, q, o, u]; done
    · simp [a, b, e, d, f, g, i, j, m, k, q, o, u]; rfl
    iterate 2
      refine regv_pure (s1 := ?_) rfl rfl ?_ ?_ ?_
      rotate_left
      · simp [a, b, e, d, f, g, i, j, m, k, q, o, u]; rfl
      · first | (simp [a, b, e, d, f, g, i, j, m, k, q, o, u] <;> omega) | (have hq := u; simp at hq; simp [a, b, e, d, f, g, i, j, m, k, q, o, u, hq]; done) | skip
    refine regv_skip (s1 := ?_) ?_ ?_ ?_
    rotate_left
    · simp [a, b, e, d, f, g, i, j, m, k, q, o, u]; done
    · simp [a, b, e, d, f, g, i, j, m, k, q, o, u]; rfl
    refine regv_skip (s1 := ?_) ?_ ?_ ?_
    rotate_left
    · simp [a, b, e, d, f, g, i, j, m, k, q, o, u]; done
    · simp [a, b, e, d, f, g, i, j, m, k, q, o, u]; rfl
    iterate 2
      refine regv_pure (s1 := ?_) rfl rfl ?_ ?_ ?_
      rotate_left
      · simp [a, b, e, d, f, g, i, j, m, k, q, o, u]; rfl
      · first | (simp [a, b, e, d, f, g, i, j, m, k, q, o, u] <;> omega) | (have hq := u; simp at hq; simp [a, b, e, d, f, g, i, j, m, k, q, o, u, hq]; done) | skip
    refine regv_skip (s1 := ?_) ?_ ?_ ?_
    rotate_left
    · simp [a, b, e, d, f, g, i, j, m, k, q, o, u]; done
    · simp [a, b, e, d, f, g, i, j, m, k, q, o, u]; rfl
    refine regv_skip (s1 := ?_) ?_ ?_ ?_
    rotate_left
    · simp [a, b, e, d, f, g, i, j, m, k, q, o, u]; done
    · simp [a, b, e, d, f, g, i, j, m, k, q, o, u]; rfl
    refine regv_skip (s1 := ?_) ?_ ?_ ?_
    rotate_left
    · simp [a, b, e, d, f, g, i, j, m, k, q, o, u]; done
    · simp [a, b, e, d, f, g, i, j, m, k, q, o, u]; rfl
    refine regv_skip (s1 := ?_) ?_ ?_ ?_
    rotate_left
    · simp [a, b, e, d, f, g, i, j, m, k, q, o, u]; done
    · simp [a, b, e, d, f, g, i, j, m, k, q, o, u]; rfl
    iterate 2
      refine regv_pure (s1 := ?_) rfl rfl ?_ ?_ ?_
      rotate_left
      · simp [a, b, e, d, f, g, i, j, m, k, q, o, u]; rfl
      · first | (simp [a, b, e, d, f, g, i, j, m, k, q, o, u] <;> omega) | (have hq := u; simp at hq; simp [a, b, e, d, f, g, i, j, m, k, q, o, u, hq]; done) | skip
    refine regv_skip (s1 := ?_) ?_ ?_ ?_
    rotate_left
    · simp [a, b, e, d, f, g, i, j, m, k, q, o, u]; done
    · simp [a, b, e, d, f, g, i, j, m, k, q, o, u]; rfl
    refine regv_skip (s1 := ?_) ?_ ?_ ?_
    rotate_left
    · simp [a, b, e, d, f, g, i, j, m, k, q, o, u]; done
    · simp [a, b, e, d, f, g, i, j, m, k, q, o, u]; rfl
    refine regv_skip (s1 := ?_) ?_ ?_ ?_
    rotate_left
    · simp [a, b, e, d, f, g, i, j, m, k, q, o, u]; done
    · simp [a, b, e, d, f, g, i, j, m, k, q, o, u]; rfl
    refine regv_skip (s1 := ?_) ?_ ?_ ?_
    rotate_left
    · simp [a, b, e, d, f, g, i, j, m, k, q, o, u]; done
    · simp [a, b, e, d, f, g, i, j, m, k, q, o, u]; rfl
    refine regv_skip (s1 := ?_) ?_ ?_ ?_
    rotate_left
    · simp [a, b, e, d, f, g, i, j, m, k, q, o, u]; done
    · simp [a, b, e, d, f, g, i, j, m, k, q, o, u]; rfl
    iterate 2
      refine regv_pure (s1 := ?_) rfl rfl ?_ ?_ ?_
      rotate_left
      · simp [a, b, e, d, f, g, i, j, m, k, q, o, u]; rfl
      · first | (simp [a, b, e, d, f, g, i, j, m, k, q, o, u] <;> omega) | (have hq := u; simp at hq; simp [a, b, e, d, f, g, i, j, m, k, q, o, u, hq]; done) | skip
    refine regv_nil ?_
    cases h
    refine Wp.ret (endQ_ret0 rfl ?_)
    repeat' first | exact All2.nil | refine All2.cons ?_ ?_ | refine AvLe.tups ?_ | refine AvLe.aggs ?_
    all_goals first
      | (exact AvLe.refl _ rfl)
      | (exact AvLe.nil _)
      | (exact AvLe.znil _)
      | (exact AvLe.ghost _ rfl)
      | (exact AvLe.zghost _ rfl)
      | (exact AvLe.sl' rfl (by simp [a, b, e, d, f, g, i, j, m, k, q, o, u]; done) (by simp [a, b, e, d, f, g, i, j, m, k, q, o, u]; done))
      | (exact AvLe.frz' rfl rfl rfl (by simp [a, b, e, d, f, g, i, j, m, k, q, o, u]; done) (by simp [a, b, e, d, f, g, i, j, m, k, q, o, u]; done) (by simp [a, b, e, d, f, g, i, j, m, k, q, o, u]; done))
      | (exact AvLe.list' (by simp [a, b, e, d, f, g, i, j, m, k, q, o, u]; done) (by simp [a, b, e, d, f, g, i, j, m, k, q, o, u]; done))
      | (exact AvLe.eq (by simp [a, b, e, d, f, g, i, j, m, k, q, o, u]; done) rfl)
  · rw [u, if_pos rfl] at h
    refine regv_pure (s1 := ?_) rfl ?_ ?_ ?_ ?_
    rotate_left
    · simp [a, b, e, d, f, g, i, j, m, k, q, o, u]; done
    · simp [a, b, e, d, f, g, i, j, m, k, q, o, u]; rfl
    · first | (simp [a, b, e, d, f, g, i, j, m, k, q, o, u] <;> omega) | (have hq := u; simp at hq; simp [a, b, e, d, f, g, i, j, m, k, q, o, u, hq]; done) | skip
    iterate 2
      refine regv_pure (s1 := ?_) rfl rfl ?_ ?_ ?_
      rotate_left
      · simp [a, b, e, d, f, g, i, j, m, k, q, o, u]; rfl
      · first | (simp [a, b, e, d, f, g, i, j, m, k, q, o, u] <;> omega) | (have hq := u; simp at hq; simp [a, b, e, d, f, g, i, j, m, k, q, o, u, hq]; done) | skip
    refine (Bool.eq_false_or_eq_true bk).symm.elim (fun v => ?_) (fun v => ?_)
    · rw [if_neg (by rw [v]; simp)] at h
      refine regv_skip (s1 := ?_) ?_ ?_ ?_
      rotate_left
      · simp [a, b, e, d, f, g, i, j, m, k, q, o, u, v]; done
      · simp [a, b, e, d, f, g, i, j, m, k, q, o, u, v]; rfl
      refine regv_skip (s1 := ?_) ?_ ?_ ?_
      rotate_left
      · simp [a, b, e, d, f, g, i, j, m, k, q, o, u, v]; done
      · simp [a, b, e, d, f, g, i, j, m, k, q, o, u, v]; rfl
      refine regv_skip (s1 := ?_) ?_ ?_ ?_
      rotate_left
      · simp [a, b, e, d, f, g, i, j, m, k, q, o, u, v]; done
      · simp [a, b, e, d, f, g, i, j, m, k, q, o, u, v]; rfl
      refine regv_skip (s1 := ?_) ?_ ?_ ?_
      rotate_left
      · simp [a, b, e, d, f, g, i, j, m, k, q, o, u, v]; done
      · simp [a, b, e, d, f, g, i, j, m, k, q, o, u, v]; rfl
      iterate 2
        refine regv_pure (s1 := ?_) rfl rfl ?_ ?_ ?_
        rotate_left
        · simp [a, b, e, d, f, g, i, j, m, k, q, o, u, v]; rfl
        · first | (simp [a, b, e, d, f, g, i, j, m, k, q, o, u, v] <;> omega) | (have hq := v; simp at hq; simp [a, b, e, d, f, g, i, j, m, k, q, o, u, v, hq]; done) | skip
      refine regv_skip (s1 := ?_) ?_ ?_ ?_
      rotate_left
      · simp [a, b, e, d, f, g, i, j, m, k, q, o, u, v]; done
      · simp [a, b, e, d, f, g, i, j, m, k, q, o, u, v]; rfl
      refine regv_skip (s1 := ?_) ?_ ?_ ?_
      rotate_left
      · simp [a, b, e, d, f, g, i, j, m, k, q, o, u, v]; done
      · simp [a, b, e, d, f, g, i, j, m, k, q, o, u, v]; rfl
      refine regv_skip (s1 := ?_) ?_ ?_ ?_
      rotate_left
      · simp [a, b, e, d, f, g, i, j, m, k, q, o, u, v]; done
      · simp [a, b, e, d, f, g, i, j, m, k, q, o, u, v]; rfl
      refine regv_skip (s1 := ?_) ?_ ?_ ?_
      rotate_left
      · simp [a, b, e, d, f, g, i, j, m, k, q, o, u, v]; done
      · simp [a, b, e, d, f, g, i, j, m, k, q, o, u, v]; rfl
      iterate 2
        refine regv_pure (s1 := ?_) rfl rfl ?_ ?_ ?_
        rotate_left
        · simp [a, b, e, d, f, g, i, j, m, k, q, o, u, v]; rfl
        · first | (simp [a, b, e, d, f, g, i, j, m, k, q, o, u, v] <;> omega) | (have hq := v; simp at hq; simp [a, b, e, d, f, g, i, j, m, k, q, o, u, v, hq]; done) | skip
      refine regv_skip (s1 := ?_) ?_ ?_ ?_
      rotate_left
      · simp [a, b, e, d, f, g, i, j, m, k, q, o, u, v]; done
      · simp [a, b, e, d, f, g, i, j, m, k, q, o, u, v]; rfl
      refine regv_skip (s1 := ?_) ?_ ?_ ?_
      rotate_left
      · simp [a, b, e, d, f, g, i, j, m, k, q, o, u, v]; done
      · simp [a, b, e, d, f, g, i, j, m, k, q, o, u, v]; rfl
      refine regv_skip (s1 := ?_) ?_ ?_ ?_
      rotate_left
      · simp [a, b, e, d, f, g, i, j, m, k, q, o, u, v]; done
      · simp [a, b, e, d, f, g, i, j, m, k, q, o, u, v]; rfl
      refine regv_skip (s1 := ?_) ?_ ?_ ?_
      rotate_left
      · simp [a, b, e, d, f, g, i, j, m, k, q, o, u, v]; done
      · simp [a, b, e, d, f, g, i, j, m, k, q, o, u, v]; rfl
      iterate 2
        refine regv_pure (s1 := ?_) rfl rfl ?_ ?_ ?_
        rotate_left
        · simp [a, b, e, d, f, g, i, j, m, k, q, o, u, v]; rfl
        · first | (simp [a, b, e, d, f, g, i, j, m, k, q, o, u, v] <;> omega) | (have hq := v; simp at hq; simp [a, b, e, d, f, g, i, j, m, k, q, o, u, v, hq]; done) | skip
      refine regv_skip (s1 := ?_) ?_ ?_ ?_
      rotate_left
      · simp [a, b, e, d, f, g, i, j, m, k, q, o, u, v]; done
      · simp [a, b, e, d, f, g, i, j, m, k, q, o, u, v]; rfl
      refine regv_skip (s1 := ?_) ?_ ?_ ?_
      rotate_left
      · simp [a, b, e, d, f, g, i, j, m, k, q, o, u, v]; done
      · simp [a, b, e, d, f, g, i, j, m, k, q, o, u, v]; rfl
      refine regv_skip (s1 := ?_) ?_ ?_ ?_
      rotate_left
      · simp [a, b, e, d, f, g, i, j, m, k, q, o, u, v]; done
      · simp [a, b, e, d, f, g, i, j, m, k, q, o, u, v]; rfl
      refine regv_skip (s1 := ?_) ?_ ?_ ?_
      rotate_left
      · simp [a, b, e, d, f, g, i, j, m, k, q, o, u, v]; done
      · simp [a, b, e, d, f, g, i, j, m, k, q, o, u, v]; rfl
      iterate 2
        refine regv_pure (s1 := ?_) rfl rfl ?_ ?_ ?_
        rotate_left
        · simp [a, b, e, d, f, g, i, j, m, k, q, o, u, v]; rfl
        · first | (simp [a, b, e, d, f, g, i, j, m, k, q, o, u, v] <;> omega) | (have hq := v; simp at hq; simp [a, b, e, d, f, g, i, j, m, k, q, o, u, v, hq]; done) | skip
      refine regv_skip (s1 := ?_) ?_ ?_ ?_
      rotate_left
      · simp [a, b, e, d, f, g, i, j, m, k, q, o, u, v]; done
      · simp [a, b, e, d, f, g, i, j, m, k, q, o, u, v]; rfl
      refine regv_skip (s1 := ?_) ?_ ?_ ?_
      rotate_left
      · simp [a, b, e, d, f, g, i, j, m, k, q, o, u, v]; done
      · simp [a, b, e, d, f, g, i, j, m, k, q, o, u, v]; rfl
      iterate 2
        refine regv_pure (s1 := ?_) rfl rfl ?_ ?_ ?_
        rotate_left
        · simp [a, b, e, d, f, g, i, j, m, k, q, o, u, v]; rfl
        · first | (simp [a, b, e, d, f, g, i, j, m, k, q, o, u, v] <;> omega) | (have hq := v; simp at hq; simp [a, b, e, d, f, g, i, j, m, k, q, o, u, v, hq]; done) | skip
      refine regv_skip (s1 := ?_) ?_ ?_ ?_
      rotate_left
      · simp [a, b, e, d, f, g, i, j, m, k, q, o, u, v]; done
      · simp [a, b, e, d, f, g, i, j, m, k, q, o, u, v]; rfl
      refine regv_skip (s1 := ?_) ?_ ?_ ?_
      rotate_left
      · simp [a, b, e, d, f, g, i, j, m, k, q, o, u, v]; done
      · simp [a, b, e, d, f, g, i, j, m, k, q, o, u, v]; rfl
      iterate 2
        refine regv_pure (s1 := ?_) rfl rfl ?_ ?_ ?_
        rotate_left
        · simp [a, b, e, d, f, g, i, j, m, k, q, o, u, v]; rfl
        · first | (simp [a, b, e, d, f, g, i, j, m, k, q, o, u, v] <;> omega) | (have hq := v; simp at hq; simp [a, b, e, d, f, g, i, j, m, k, q, o, u, v, hq]; done) | skip
      refine regv_skip (s1 := ?_) ?_ ?_ ?_
      rotate_left
      · simp [a, b, e, d, f, g, i, j, m, k, q, o, u, v]; done
      · simp [a, b, e, d, f, g, i, j, m, k, q, o, u, v]; rfl
      refine regv_skip (s1 := ?_) ?_ ?_ ?_
      rotate_left
      · simp [a, b, e, d, f, g, i, j, m, k, q, o, u, v]; done
      · simp [a, b, e, d, f, g, i, j, m, k, q, o, u, v]; rfl
      refine regv_skip (s1 := ?_) ?_ ?_ ?_
      rotate_left
      · simp [a, b, e, d, f, g, i, j, m, k, q, o, u, v]; done
      · simp [a, b, e, d, f, g, i, j, m, k, q, o, u, v]; rfl
      refine regv_skip (s1 := ?_) ?_ ?_ ?_
      rotate_left
      · simp [a, b, e, d, f, g, i, j, m, k, q, o, u, v]; done
      · simp [a, b, e, d, f, g, i, j, m, k, q, o, u, v]; rfl
      iterate 2
        refine regv_pure (s1 := ?_) rfl rfl ?_ ?_ ?_
        rotate_left
        · simp [a, b, e, d, f, g, i, j, m, k, q, o, u, v]; rfl
        · first | (simp [a, b, e, d, f, g, i, j, m, k, q, o, u, v] <;> omega) | (have hq := v; simp at hq; simp [a, b, e, d, f, g, i, j, m, k, q, o, u, v, hq]; done) | skip
      refine regv_skip (s1 := ?_) ?_ ?_ ?_
      rotate_left
      · simp [a, b, e, d, f, g, i, j, m, k, q, o, u, v]; done
      · simp [a, b, e, d, f, g, i, j, m, k, q, o, u, v]; rfl
      refine regv_skip (s1 := ?_) ?_ ?_ ?_
      rotate_left
      · simp [a, b, e, d, f, g, i, j, m, k, q, o, u, v]; done
      · simp [a, b, e, d, f, g, i, j, m, k, q, o, u, v]; rfl
      refine regv_skip (s1 := ?_) ?_ ?_ ?_
      rotate_left
      · simp [a, b, e, d, f, g, i, j, m, k, q, o, u, v]; done
      · simp [a, b, e, d, f, g, i, j, m, k, q, o, u, v]; rfl
      refine regv_skip (s1 := ?_) ?_ ?_ ?_
      rotate_left
      · simp [a, b, e, d, f, g, i, j, m, k, q, o, u, v]; done
      · simp [a, b, e, d, f, g, i, j, m, k, q, o, u, v]; rfl
      refine regv_skip (s1 := ?_) ?_ ?_ ?_
      rotate_left
      · simp [a, b, e, d, f, g, i, j, m, k, q, o, u, v]; done
      · simp [a, b, e, d, f, g, i, j, m, k, q, o, u, v]; rfl
      iterate 2
        refine regv_pure (s1 := ?_) rfl rfl ?_ ?_ ?_
        rotate_left
        · simp [a, b, e, d, f, g, i, j, m, k, q, o, u, v]; rfl
        · first | (simp [a, b, e, d, f, g, i, j, m, k, q, o, u, v] <;> omega) | (have hq := v; simp at hq; simp [a, b, e, d, f, g, i, j, m, k, q, o, u, v, hq]; done) | skip
      refine regv_nil ?_
      cases h
      refine Wp.ret (endQ_ret0 rfl ?_)
      repeat' first | exact All2.nil | refine All2.cons ?_ ?_ | refine AvLe.tups ?_ | refine AvLe.aggs ?_
      all_goals first
        | (exact AvLe.refl _ rfl)
        | (exact AvLe.nil _)
        | (exact AvLe.znil _)
        | (exact AvLe.ghost _ rfl)
        | (exact AvLe.zghost _ rfl)
        | (exact AvLe.sl' rfl (by simp [a, b, e, d, f, g, i, j, m, k, q, o, u, v]; done) (by simp [a, b, e, d, f, g, i, j, m, k, q, o, u, v]; done))
        | (exact AvLe.frz' rfl rfl rfl (by simp [a, b, e, d, f, g, i, j, m, k, q, o, u, v]; done) (by simp [a, b, e, d, f, g, i, j, m, k, q, o, u, v]; done) (by simp [a, b, e, d, f, g, i, j, m, k, q, o, u, v]; done))
        | (exact AvLe.list' (by simp [a, b, e, d, f, g, i, j, m, k, q, o, u, v]; done) (by simp [a, b, e, d, f, g, i, j, m, k, q, o, u, v]; done))
        | (exact AvLe.eq (by simp [a, b, e, d, f, g, i, j, m, k, q, o, u, v]; done) rfl)
    · rw [if_pos v] at h
      refine regv_pure (s1 := ?_) rfl ?_ ?_ ?_ ?_
      rotate_left
      · simp [a, b, e, d, f, g, i, j, m, k, q, o, u, v]; done
      · simp [a, b, e, d, f, g, i, j, m, k, q, o, u, v]; rfl
      · first | (simp [a, b, e, d, f, g, i, j, m, k, q, o, u, v] <;> omega) | (have hq := v; simp at hq; simp [a, b, e, d, f, g, i, j, m, k, q, o, u, v, hq]; done) | skip
      refine regv_pure (s1 := ?_) rfl ?_ ?_ ?_ ?_
      rotate_left
      · simp [a, b, e, d, f, g, i, j, m, k, q, o, u, v]; done
      · simp [a, b, e, d, f, g, i, j, m, k, q, o, u, v]; rfl
      · first | (simp [a, b, e, d, f, g, i, j, m, k, q, o, u, v] <;> omega) | (have hq := v; simp at hq; simp [a, b, e, d, f, g, i, j, m, k, q, o, u, v, hq]; done) | skip
      refine regv_pure (s1 := ?_) rfl ?_ ?_ ?_ ?_
      rotate_left
      · simp [a, b, e, d, f, g, i, j, m, k, q, o, u, v]; done
      · simp [a, b, e, d, f, g, i, j, m, k, q, o, u, v]; rfl
      · first | (simp [a, b, e, d, f, g, i, j, m, k, q, o, u, v] <;> omega) | (have hq := v; simp at hq; simp [a, b, e, d, f, g, i, j, m, k, q, o, u, v, hq]; done) | skip
      refine regv_pure (s1 := ?_) rfl ?_ ?_ ?_ ?_
      rotate_left
      · simp [a, b, e, d, f, g, i, j, m, k, q, o, u, v]; done
      · simp [a, b, e, d, f, g, i, j, m, k, q, o, u, v]; rfl
      · first | (simp [a, b, e, d, f, g, i, j, m, k, q, o, u, v] <;> omega) | (have hq := v; simp at hq; simp [a, b, e, d, f, g, i, j, m, k, q, o, u, v, hq]; done) | skip
      iterate 2
        refine regv_pure (s1 := ?_) rfl rfl ?_ ?_ ?_
        rotate_left
        · simp [a, b, e, d, f, g, i, j, m, k, q, o, u, v]; rfl
        · first | (simp [a, b, e, d, f, g, i, j, m, k, q, o, u, v] <;> omega) | (have hq := v; simp at hq; simp [a, b, e, d, f, g, i, j, m, k, q, o, u, v, hq]; done) | skip
      cases w : ((bd.Q.length : Int) == 1)
      · rw [w, if_neg (by simp)] at h
        refine regv_skip (s1 := ?_) ?_ ?_ ?_
        rotate_left
        · simp [a, b, e, d, f, g, i, j, m, k, q, o, u, v, w]; done
        · simp [a, b, e, d, f, g, i, j, m, k, q, o, u, v, w]; rfl
        refine regv_skip (s1 := ?_) ?_ ?_ ?_
        rotate_left
        · simp [a, b, e, d, f, g, i, j, m, k, q, o, u, v, w]; done
        · simp [a, b, e, d, f, g, i, j, m, k, q, o, u, v, w]; rfl
        refine regv_skip (s1 := ?_) ?_ ?_ ?_
        rotate_left
        · simp [a, b, e, d, f, g, i, j, m, k, q, o, u, v, w]; done
        · simp [a, b, e, d, f, g, i, j, m, k, q, o, u, v, w]; rfl
        refine regv_skip (s1 := ?_) ?_ ?_ ?_
        rotate_left
        · simp [a, b, e, d, f, g, i, j, m, k, q, o, u, v, w]; done
        · simp [a, b, e, d, f, g, i, j, m, k, q, o, u, v, w]; rfl
        iterate 2
          refine regv_pure (s1 := ?_) rfl rfl ?_ ?_ ?_
          rotate_left
          · simp [a, b, e, d, f, g, i, j, m, k, q, o, u, v, w]; rfl
          · first | (simp [a, b, e, d, f, g, i, j, m, k, q, o, u, v, w] <;> omega) | (have hq := w; simp at hq; simp [a, b, e, d, f, g, i, j, m, k, q, o, u, v, w, hq]; done) | skip
        refine regv_skip (s1 := ?_) ?_ ?_ ?_
        rotate_left
        · simp [a, b, e, d, f, g, i, j, m, k, q, o, u, v, w]; done
        · simp [a, b, e, d, f, g, i, j, m, k, q, o, u, v, w]; rfl
        refine regv_skip (s1 := ?_) ?_ ?_ ?_
        rotate_left
        · simp [a, b, e, d, f, g, i, j, m, k, q, o, u, v, w]; done
        · simp [a, b, e, d, f, g, i, j, m, k, q, o, u, v, w]; rfl
        refine regv_skip (s1 := ?_) ?_ ?_ ?_
        rotate_left
        · simp [a, b, e, d, f, g, i, j, m, k, q, o, u, v, w]; done
        · simp [a, b, e, d, f, g, i, j, m, k, q, o, u, v, w]; rfl
        refine regv_skip (s1 := ?_) ?_ ?_ ?_
        rotate_left
        · simp [a, b, e, d, f, g, i, j, m, k, q, o, u, v, w]; done
        · simp [a, b, e, d, f, g, i, j, m, k, q, o, u, v, w]; rfl
        iterate 2
          refine regv_pure (s1 := ?_) rfl rfl ?_ ?_ ?_
          rotate_left
          · simp [a, b, e, d, f, g, i, j, m, k, q, o, u, v, w]; rfl
          · first | (simp [a, b, e, d, f, g, i, j, m, k, q, o, u, v, w] <;> omega) | (have hq := w; simp at hq; simp [a, b, e, d, f, g, i, j, m, k, q, o, u, v, w, hq]; done) | skip
        refine regv_skip (s1 := ?_) ?_ ?_ ?_
        rotate_left
        · simp [a, b, e, d, f, g, i, j, m, k, q, o, u, v, w]; done
        · simp [a, b, e, d, f, g, i, j, m, k, q, o, u, v, w]; rfl
        refine regv_skip (s1 := ?_) ?_ ?_ ?_
        rotate_left
        · simp [a, b, e, d, f, g, i, j, m, k, q, o, u, v, w]; done
        · simp [a, b, e, d, f, g, i, j, m, k, q, o, u, v, w]; rfl
        refine regv_skip (s1 := ?_) ?_ ?_ ?_
        rotate_left
        · simp [a, b, e, d, f, g, i, j, m, k, q, o, u, v, w]; done
        · simp [a, b, e, d, f, g, i, j, m, k, q, o, u, v, w]; rfl
        refine regv_skip (s1 := ?_) ?_ ?_ ?_
        rotate_left
        · simp [a, b, e, d, f, g, i, j, m, k, q, o, u, v, w]; done
        · simp [a, b, e, d, f, g, i, j, m, k, q, o, u, v, w]; rfl
        iterate 2
          refine regv_pure (s1 := ?_) rfl rfl ?_ ?_ ?_
          rotate_left
          · simp [a, b, e, d, f, g, i, j, m, k, q, o, u, v, w]; rfl
          · first | (simp [a, b, e, d, f, g, i, j, m, k, q, o, u, v, w] <;> omega) | (have hq := w; simp at hq; simp [a, b, e, d, f, g, i, j, m, k, q, o, u, v, w, hq]; done) | skip
        refine regv_skip (s1 := ?_) ?_ ?_ ?_
        rotate_left
        · simp [a, b, e, d, f, g, i, j, m, k, q, o, u, v, w]; done
        · simp [a, b, e, d, f, g, i, j, m, k, q, o, u, v, w]; rfl
        refine regv_skip (s1 := ?_) ?_ ?_ ?_
        rotate_left
        · simp [a, b, e, d, f, g, i, j, m, k, q, o, u, v, w]; done
        · simp [a, b, e, d, f, g, i, j, m, k, q, o, u, v, w]; rfl
        iterate 2
          refine regv_pure (s1 := ?_) rfl rfl ?_ ?_ ?_
          rotate_left
          · simp [a, b, e, d, f, g, i, j, m, k, q, o, u, v, w]; rfl
          · first | (simp [a, b, e, d, f, g, i, j, m, k, q, o, u, v, w] <;> omega) | (have hq := w; simp at hq; simp [a, b, e, d, f, g, i, j, m, k, q, o, u, v, w, hq]; done) | skip
        refine regv_skip (s1 := ?_) ?_ ?_ ?_
        rotate_left
        · simp [a, b, e, d, f, g, i, j, m, k, q, o, u, v, w]; done
        · simp [a, b, e, d, f, g, i, j, m, k, q, o, u, v, w]; rfl
        refine regv_skip (s1 := ?_) ?_ ?_ ?_
        rotate_left
        · simp [a, b, e, d, f, g, i, j, m, k, q, o, u, v, w]; done
        · simp [a, b, e, d, f, g, i, j, m, k, q, o, u, v, w]; rfl
        iterate 2
          refine regv_pure (s1 := ?_) rfl rfl ?_ ?_ ?_
          rotate_left
          · simp [a, b, e, d, f, g, i, j, m, k, q, o, u, v, w]; rfl
          · first | (simp [a, b, e, d, f, g, i, j, m, k, q, o, u, v, w] <;> omega) | (have hq := w; simp at hq; simp [a, b, e, d, f, g, i, j, m, k, q, o, u, v, w, hq]; done) | skip
        refine regv_skip (s1 := ?_) ?_ ?_ ?_
        rotate_left
        · simp [a, b, e, d, f, g, i, j, m, k, q, o, u, v, w]; done
        · simp [a, b, e, d, f, g, i, j, m, k, q, o, u, v, w]; rfl
        refine regv_skip (s1 := ?_) ?_ ?_ ?_
        rotate_left
        · simp [a, b, e, d, f, g, i, j, m, k, q, o, u, v, w]; done
        · simp [a, b, e, d, f, g, i, j, m, k, q, o, u, v, w]; rfl
        refine regv_skip (s1 := ?_) ?_ ?_ ?_
        rotate_left
        · simp [a, b, e, d, f, g, i, j, m, k, q, o, u, v, w]; done
        · simp [a, b, e, d, f, g, i, j, m, k, q, o, u, v, w]; rfl
        refine regv_skip (s1 := ?_) ?_ ?_ ?_
        rotate_left
        · simp [a, b, e, d, f, g, i, j, m, k, q, o, u, v, w]; done
        · simp [a, b, e, d, f, g, i, j, m, k, q, o, u, v, w]; rfl
        iterate 2
          refine regv_pure (s1 := ?_) rfl rfl ?_ ?_ ?_
          rotate_left
          · simp [a, b, e, d, f, g, i, j, m, k, q, o, u, v, w]; rfl
          · first | (simp [a, b, e, d, f, g, i, j, m, k, q, o, u, v, w] <;> omega) | (have hq := w; simp at hq; simp [a, b, e, d, f, g, i, j, m, k, q, o, u, v, w, hq]; done) | skip
        refine regv_skip (s1 := ?_) ?_ ?_ ?_
        rotate_left
        · simp [a, b, e, d, f, g, i, j, m, k, q, o, u, v, w]; done
        · simp [a, b, e, d, f, g, i, j, m, k, q, o, u, v, w]; rfl
        refine regv_skip (s1 := ?_) ?_ ?_ ?_
        rotate_left
        · simp [a, b, e, d, f, g, i, j, m, k, q, o, u, v, w]; done
        · simp [a, b, e, d, f, g, i, j, m, k, q, o, u, v, w]; rfl
        refine regv_skip (s1 := ?_) ?_ ?_ ?_
        rotate_left
        · simp [a, b, e, d, f, g, i, j, m, k, q, o, u, v, w]; done
        · simp [a, b, e, d, f, g, i, j, m, k, q, o, u, v, w]; rfl
        refine regv_skip (s1 := ?_) ?_ ?_ ?_
        rotate_left
        · simp [a, b, e, d, f, g, i, j, m, k, q, o, u, v, w]; done
        · simp [a, b, e, d, f, g, i, j, m, k, q, o, u, v, w]; rfl
        refine regv_skip (s1 := ?_) ?_ ?_ ?_
        rotate_left
        · simp [a, b, e, d, f, g, i, j, m, k, q, o, u, v, w]; done
        · simp [a, b, e, d, f, g, i, j, m, k, q, o, u, v, w]; rfl
        iterate 2
          refine regv_pure (s1 := ?_) rfl rfl ?_ ?_ ?_
          rotate_left
          · simp [a, b, e, d, f, g, i, j, m, k, q, o, u, v, w]; rfl
          · first | (simp [a, b, e, d, f, g, i, j, m, k, q, o, u, v, w] <;> omega) | (have hq := w; simp at hq; simp [a, b, e, d, f, g, i, j, m, k, q, o, u, v, w, hq]; done) | skip
        refine regv_nil ?_
        cases h
        refine Wp.ret (endQ_ret0 rfl ?_)
        repeat' first | exact All2.nil | refine All2.cons ?_ ?_ | refine AvLe.tups ?_ | refine AvLe.aggs ?_
        all_goals first
          | (exact AvLe.refl _ rfl)
          | (exact AvLe.nil _)
          | (exact AvLe.znil _)
          | (exact AvLe.ghost _ rfl)
          | (exact AvLe.zghost _ rfl)
          | (exact AvLe.sl' rfl (by simp [a, b, e, d, f, g, i, j, m, k, q, o, u, v, w]; done) (by simp [a, b, e, d, f, g, i, j, m, k, q, o, u, v, w]; done))
          | (exact AvLe.frz' rfl rfl rfl (by simp [a, b, e, d, f, g, i, j, m, k, q, o, u, v, w]; done) (by simp [a, b, e, d, f, g, i, j, m, k, q, o, u, v, w]; done) (by simp [a, b, e, d, f, g, i, j, m, k, q, o, u, v, w]; done))
          | (exact AvLe.list' (by simp [a, b, e, d, f, g, i, j, m, k, q, o, u, v, w]; done) (by simp [a, b, e, d, f, g, i, j, m, k, q, o, u, v, w]; done))
          | (exact AvLe.eq (by simp [a, b, e, d, f, g, i, j, m, k, q, o, u, v, w]; done) rfl)
      · rw [w, if_pos rfl] at h
        refine regv_pure (s1 := ?_) rfl ?_ ?_ ?_ ?_
        rotate_left
        · simp [a, b, e, d, f, g, i, j, m, k, q, o, u, v, w]; done
        · simp [a, b, e, d, f, g, i, j, m, k, q, o, u, v, w]; rfl
        · first | (simp [a, b, e, d, f, g, i, j, m, k, q, o, u, v, w] <;> omega) | (have hq := w; simp at hq; simp [a, b, e, d, f, g, i, j, m, k, q, o, u, v, w, hq]; done) | skip
        refine regv_pure (s1 := ?_) rfl ?_ ?_ ?_ ?_
        rotate_left
        · simp [a, b, e, d, f, g, i, j, m, k, q, o, u, v, w]; done
        · simp [a, b, e, d, f, g, i, j, m, k, q, o, u, v, w]; rfl
        · first | (simp [a, b, e, d, f, g, i, j, m, k, q, o, u, v, w] <;> omega) | (have hq := w; simp at hq; simp [a, b, e, d, f, g, i, j, m, k, q, o, u, v, w, hq]; done) | skip
        obtain ⟨bu, bg, h⟩ := obind h
        obtain ⟨ab, aa, z⟩ := atI_some bg
        try simp [a, b, e, d, f, g, i, j, m, k, q, o, u, v, w] at aa
        try simp only [Int.toNat_natCast, Int.reduceToNat, Nat.zero_add, Nat.add_zero] at z
        have y := getElem_of z
        refine regv_pure (s1 := ?_) rfl ?_ ?_ ?_ ?_
        rotate_left
        · simp [a, b, e, d, f, g, i, j, m, k, q, o, u, v, w, ab, aa, z, y]; done
        · simp [a, b, e, d, f, g, i, j, m, k, q, o, u, v, w, ab, aa, z, y]; rfl
        · first | (simp [a, b, e, d, f, g, i, j, m, k, q, o, u, v, w, ab, aa, z, y] <;> omega) | (have hq := y; simp at hq; simp [a, b, e, d, f, g, i, j, m, k, q, o, u, v, w, ab, aa, z, y, hq]; done) | skip
        refine regv_pure (s1 := ?_) rfl ?_ ?_ ?_ ?_
        rotate_left
        · simp [a, b, e, d, f, g, i, j, m, k, q, o, u, v, w, ab, aa, z, y]; done
        · simp [a, b, e, d, f, g, i, j, m, k, q, o, u, v, w, ab, aa, z, y]; rfl
        · first | (simp [a, b, e, d, f, g, i, j, m, k, q, o, u, v, w, ab, aa, z, y] <;> omega) | (have hq := y; simp at hq; simp [a, b, e, d, f, g, i, j, m, k, q, o, u, v, w, ab, aa, z, y, hq]; done) | skip
        iterate 2
          refine regv_pure (s1 := ?_) rfl rfl ?_ ?_ ?_
          rotate_left
          · simp [a, b, e, d, f, g, i, j, m, k, q, o, u, v, w, ab, aa, z, y]; rfl
          · first | (simp [a, b, e, d, f, g, i, j, m, k, q, o, u, v, w, ab, aa, z, y] <;> omega) | (have hq := y; simp at hq; simp [a, b, e, d, f, g, i, j, m, k, q, o, u, v, w, ab, aa, z, y, hq]; done) | skip
        refine (Bool.eq_false_or_eq_true bu).symm.elim (fun ac => ?_) (fun ac => ?_)
        · rw [if_neg (by rw [ac]; simp)] at h
          refine regv_skip (s1 := ?_) ?_ ?_ ?_
          rotate_left
          · simp [a, b, e, d, f, g, i, j, m, k, q, o, u, v, w, ab, aa, z, y, ac]; done
          · simp [a, b, e, d, f, g, i, j, m, k, q, o, u, v, w, ab, aa, z, y, ac]; rfl
          refine regv_skip (s1 := ?_) ?_ ?_ ?_
          rotate_left
          · simp [a, b, e, d, f, g, i, j, m, k, q, o, u, v, w, ab, aa, z, y, ac]; done
          · simp [a, b, e, d, f, g, i, j, m, k, q, o, u, v, w, ab, aa, z, y, ac]; rfl
          refine regv_skip (s1 := ?_) ?_ ?_ ?_
          rotate_left
          · simp [a, b, e, d, f, g, i, j, m, k, q, o, u, v, w, ab, aa, z, y, ac]; done
          · simp [a, b, e, d, f, g, i, j, m, k, q, o, u, v, w, ab, aa, z, y, ac]; rfl
          refine regv_skip (s1 := ?_) ?_ ?_ ?_
          rotate_left
          · simp [a, b, e, d, f, g, i, j, m, k, q, o, u, v, w, ab, aa, z, y, ac]; done
          · simp [a, b, e, d, f, g, i, j, m, k, q, o, u, v, w, ab, aa, z, y, ac]; rfl
          iterate 2
            refine regv_pure (s1 := ?_) rfl rfl ?_ ?_ ?_
            rotate_left
            · simp [a, b, e, d, f, g, i, j, m, k, q, o, u, v, w, ab, aa, z, y, ac]; rfl
            · first | (simp [a, b, e, d, f, g, i, j, m, k, q, o, u, v, w, ab, aa, z, y, ac] <;> omega) | (have hq := ac; simp at hq; simp [a, b, e, d, f, g, i, j, m, k, q, o, u, v, w, ab, aa, z, y, ac, hq]; done) | skip
          refine regv_skip (s1 := ?_) ?_ ?_ ?_
          rotate_left
          · simp [a, b, e, d, f, g, i, j, m, k, q, o, u, v, w, ab, aa, z, y, ac]; done
          · simp [a, b, e, d, f, g, i, j, m, k, q, o, u, v, w, ab, aa, z, y, ac]; rfl
          refine regv_skip (s1 := ?_) ?_ ?_ ?_
          rotate_left
          · simp [a, b, e, d, f, g, i, j, m, k, q, o, u, v, w, ab, aa, z, y, ac]; done
          · simp [a, b, e, d, f, g, i, j, m, k, q, o, u, v, w, ab, aa, z, y, ac]; rfl
          refine regv_skip (s1 := ?_) ?_ ?_ ?_
          rotate_left
          · simp [a, b, e, d, f, g, i, j, m, k, q, o, u, v, w, ab, aa, z, y, ac]; done
          · simp [a, b, e, d, f, g, i, j, m, k, q, o, u, v, w, ab, aa, z, y, ac]; rfl
          refine regv_skip (s1 := ?_) ?_ ?_ ?_
          rotate_left
          · simp [a, b, e, d, f, g, i, j, m, k, q, o, u, v, w, ab, aa, z, y, ac]; done
          · simp [a, b, e, d, f, g, i, j, m, k, q, o, u, v, w, ab, aa, z, y, ac]; rfl
          iterate 2
            refine regv_pure (s1 := ?_) rfl rfl ?_ ?_ ?_
            rotate_left
            · simp [a, b, e, d, f, g, i, j, m, k, q, o, u, v, w, ab, aa, z, y, ac]; rfl
            · first | (simp [a, b, e, d, f, g, i, j, m, k, q, o, u, v, w, ab, aa, z, y, ac] <;> omega) | (have hq := ac; simp at hq; simp [a, b, e, d, f, g, i, j, m, k, q, o, u, v, w, ab, aa, z, y, ac, hq]; done) | skip
          refine regv_skip (s1 := ?_) ?_ ?_ ?_
          rotate_left
          · simp [a, b, e, d, f, g, i, j, m, k, q, o, u, v, w, ab, aa, z, y, ac]; done
          · simp [a, b, e, d, f, g, i, j, m, k, q, o, u, v, w, ab, aa, z, y, ac]; rfl
          refine regv_skip (s1 := ?_) ?_ ?_ ?_
          rotate_left
          · simp [a, b, e, d, f, g, i, j, m, k, q, o, u, v, w, ab, aa, z, y, ac]; done
          · simp [a, b, e, d, f, g, i, j, m, k, q, o, u, v, w, ab, aa, z, y, ac]; rfl
          iterate 2
            refine regv_pure (s1 := ?_) rfl rfl ?_ ?_ ?_
            rotate_left
            · simp [a, b, e, d, f, g, i, j, m, k, q, o, u, v, w, ab, aa, z, y, ac]; rfl
            · first | (simp [a, b, e, d, f, g, i, j, m, k, q, o, u, v, w, ab, aa, z, y, ac] <;> omega) | (have hq := ac; simp at hq; simp [a, b, e, d, f, g, i, j, m, k, q, o, u, v, w, ab, aa, z, y, ac, hq]; done) | skip
          refine regv_skip (s1 := ?_) ?_ ?_ ?_
          rotate_left
          · simp [a, b, e, d, f, g, i, j, m, k, q, o, u, v, w, ab, aa, z, y, ac]; done
          · simp [a, b, e, d, f, g, i, j, m, k, q, o, u, v, w, ab, aa, z, y, ac]; rfl
          refine regv_skip (s1 := ?_) ?_ ?_ ?_
          rotate_left
          · simp [a, b, e, d, f, g, i, j, m, k, q, o, u, v, w, ab, aa, z, y, ac]; done
          · simp [a, b, e, d, f, g, i, j, m, k, q, o, u, v, w, ab, aa, z, y, ac]; rfl
          iterate 2
            refine regv_pure (s1 := ?_) rfl rfl ?_ ?_ ?_
            rotate_left
            · simp [a, b, e, d, f, g, i, j, m, k, q, o, u, v, w, ab, aa, z, y, ac]; rfl
            · first | (simp [a, b, e, d, f, g, i, j, m, k, q, o, u, v, w, ab, aa, z, y, ac] <;> omega) | (have hq := ac; simp at hq; simp [a, b, e, d, f, g, i, j, m, k, q, o, u, v, w, ab, aa, z, y, ac, hq]; done) | skip
          refine regv_skip (s1 := ?_) ?_ ?_ ?_
          rotate_left
          · simp [a, b, e, d, f, g, i, j, m, k, q, o, u, v, w, ab, aa, z, y, ac]; done
          · simp [a, b, e, d, f, g, i, j, m, k, q, o, u, v, w, ab, aa, z, y, ac]; rfl
          refine regv_skip (s1 := ?_) ?_ ?_ ?_
          rotate_left
          · simp [a, b, e, d, f, g, i, j, m, k, q, o, u, v, w, ab, aa, z, y, ac]; done
          · simp [a, b, e, d, f, g, i, j, m, k, q, o, u, v, w, ab, aa, z, y, ac]; rfl
          refine regv_skip (s1 := ?_) ?_ ?_ ?_
          rotate_left
          · simp [a, b, e, d, f, g, i, j, m, k, q, o, u, v, w, ab, aa, z, y, ac]; done
          · simp [a, b, e, d, f, g, i, j, m, k, q, o, u, v, w, ab, aa, z, y, ac]; rfl
          refine regv_skip (s1 := ?_) ?_ ?_ ?_
          rotate_left
          · simp [a, b, e, d, f, g, i, j, m, k, q, o, u, v, w, ab, aa, z, y, ac]; done
          · simp [a, b, e, d, f, g, i, j, m, k, q, o, u, v, w, ab, aa, z, y, ac]; rfl
          iterate 2
            refine regv_pure (s1 := ?_) rfl rfl ?_ ?_ ?_
            rotate_left
            · simp [a, b, e, d, f, g, i, j, m, k, q, o, u, v, w, ab, aa, z, y, ac]; rfl
            · first | (simp [a, b, e, d, f, g, i, j, m, k, q, o, u, v, w, ab, aa, z, y, ac] <;> omega) | (have hq := ac; simp at hq; simp [a, b, e, d, f, g, i, j, m, k, q, o, u, v, w, ab, aa, z, y, ac, hq]; done) | skip
          refine regv_skip (s1 := ?_) ?_ ?_ ?_
          rotate_left
          · simp [a, b, e, d, f, g, i, j, m, k, q, o, u, v, w, ab, aa, z, y, ac]; done
          · simp [a, b, e, d, f, g, i, j, m, k, q, o, u, v, w, ab, aa, z, y, ac]; rfl
          refine regv_skip (s1 := ?_) ?_ ?_ ?_
          rotate_left
          · simp [a, b, e, d, f, g, i, j, m, k, q, o, u, v, w, ab, aa, z, y, ac]; done
          · simp [a, b, e, d, f, g, i, j, m, k, q, o, u, v, w, ab, aa, z, y, ac]; rfl
          refine regv_skip (s1 := ?_) ?_ ?_ ?_
          rotate_left
          · simp [a, b, e, d, f, g, i, j, m, k, q, o, u, v, w, ab, aa, z, y, ac]; done
          · simp [a, b, e, d, f, g, i, j, m, k, q, o, u, v, w, ab, aa, z, y, ac]; rfl
          refine regv_skip (s1 := ?_) ?_ ?_ ?_
          rotate_left
          · simp [a, b, e, d, f, g, i, j, m, k, q, o, u, v, w, ab, aa, z, y, ac]; done
          · simp [a, b, e, d, f, g, i, j, m, k, q, o, u, v, w, ab, aa, z, y, ac]; rfl
          refine regv_skip (s1 := ?_) ?_ ?_ ?_
          rotate_left
          · simp [a, b, e, d, f, g, i, j, m, k, q, o, u, v, w, ab, aa, z, y, ac]; done
          · simp [a, b, e, d, f, g, i, j, m, k, q, o, u, v, w, ab, aa, z, y, ac]; rfl
          iterate 2
            refine regv_pure (s1 := ?_) rfl rfl ?_ ?_ ?_
            rotate_left
            · simp [a, b, e, d, f, g, i, j, m, k, q, o, u, v, w, ab, aa, z, y, ac]; rfl
            · first | (simp [a, b, e, d, f, g, i, j, m, k, q, o, u, v, w, ab, aa, z, y, ac] <;> omega) | (have hq := ac; simp at hq; simp [a, b, e, d, f, g, i, j, m, k, q, o, u, v, w, ab, aa, z, y, ac, hq]; done) | skip
          refine regv_nil ?_
          cases h
          refine Wp.ret (endQ_ret0 rfl ?_)
          repeat' first | exact All2.nil | refine All2.cons ?_ ?_ | refine AvLe.tups ?_ | refine AvLe.aggs ?_
          all_goals first
            | (exact AvLe.refl _ rfl)
            | (exact AvLe.nil _)
            | (exact AvLe.znil _)
            | (exact AvLe.ghost _ rfl)
            | (exact AvLe.zghost _ rfl)
            | (exact AvLe.sl' rfl (by simp [a, b, e, d, f, g, i, j, m, k, q, o, u, v, w, ab, aa, z, y, ac]; done) (by simp [a, b, e, d, f, g, i, j, m, k, q, o, u, v, w, ab, aa, z, y, ac]; done))
            | (exact AvLe.frz' rfl rfl rfl (by simp [a, b, e, d, f, g, i, j, m, k, q, o, u, v, w, ab, aa, z, y, ac]; done) (by simp [a, b, e, d, f, g, i, j, m, k, q, o, u, v, w, ab, aa, z, y, ac]; done) (by simp [a, b, e, d, f, g, i, j, m, k, q, o, u, v, w, ab, aa, z, y, ac]; done))
            | (exact AvLe.list' (by simp [a, b, e, d, f, g, i, j, m, k, q, o, u, v, w, ab, aa, z, y, ac]; done) (by simp [a, b, e, d, f, g, i, j, m, k, q, o, u, v, w, ab, aa, z, y, ac]; done))
            | (exact AvLe.eq (by simp [a, b, e, d, f, g, i, j, m, k, q, o, u, v, w, ab, aa, z, y, ac]; done) rfl)
        · rw [if_pos ac] at h
          refine regv_pure (s1 := ?_) rfl ?_ ?_ ?_ ?_
          rotate_left
          · simp [a, b, e, d, f, g, i, j, m, k, q, o, u, v, w, ab, aa, z, y, ac]; done
          · simp [a, b, e, d, f, g, i, j, m, k, q, o, u, v, w, ab, aa, z, y, ac]; rfl
          · first | (simp [a, b, e, d, f, g, i, j, m, k, q, o, u, v, w, ab, aa, z, y, ac] <;> omega) | (have hq := ac; simp at hq; simp [a, b, e, d, f, g, i, j, m, k, q, o, u, v, w, ab, aa, z, y, ac, hq]; done) | skip
          refine regv_pure (s1 := ?_) rfl ?_ ?_ ?_ ?_
          rotate_left
          · simp [a, b, e, d, f, g, i, j, m, k, q, o, u, v, w, ab, aa, z, y, ac]; done
          · simp [a, b, e, d, f, g, i, j, m, k, q, o, u, v, w, ab, aa, z, y, ac]; rfl
          · first | (simp [a, b, e, d, f, g, i, j, m, k, q, o, u, v, w, ab, aa, z, y, ac] <;> omega) | (have hq := ac; simp at hq; simp [a, b, e, d, f, g, i, j, m, k, q, o, u, v, w, ab, aa, z, y, ac, hq]; done) | skip
          refine regv_pure (s1 := ?_) rfl ?_ ?_ ?_ ?_
          rotate_left
          · simp [a, b, e, d, f, g, i, j, m, k, q, o, u, v, w, ab, aa, z, y, ac]; done
          · simp [a, b, e, d, f, g, i, j, m, k, q, o, u, v, w, ab, aa, z, y, ac]; rfl
          · first | (simp [a, b, e, d, f, g, i, j, m, k, q, o, u, v, w, ab, aa, z, y, ac] <;> omega) | (have hq := ac; simp at hq; simp [a, b, e, d, f, g, i, j, m, k, q, o, u, v, w, ab, aa, z, y, ac, hq]; done) | skip
          refine regv_pure (s1 := ?_) rfl ?_ ?_ ?_ ?_
          rotate_left
          · simp [a, b, e, d, f, g, i, j, m, k, q, o, u, v, w, ab, aa, z, y, ac]; done
          · simp [a, b, e, d, f, g, i, j, m, k, q, o, u, v, w, ab, aa, z, y, ac]; rfl
          · first | (simp [a, b, e, d, f, g, i, j, m, k, q, o, u, v, w, ab, aa, z, y, ac] <;> omega) | (have hq := ac; simp at hq; simp [a, b, e, d, f, g, i, j, m, k, q, o, u, v, w, ab, aa, z, y, ac, hq]; done) | skip
          iterate 2
            refine regv_pure (s1 := ?_) rfl rfl ?_ ?_ ?_
            rotate_left
            · simp [a, b, e, d, f, g, i, j, m, k, q, o, u, v, w, ab, aa, z, y, ac]; rfl
            · first | (simp [a, b, e, d, f, g, i, j, m, k, q, o, u, v, w, ab, aa, z, y, ac] <;> omega) | (have hq := ac; simp at hq; simp [a, b, e, d, f, g, i, j, m, k, q, o, u, v, w, ab, aa, z, y, ac, hq]; done) | skip
          cases ad : ((bd.E.length : Int) == 1)
          · rw [ad, if_neg (by simp)] at h
            refine regv_skip (s1 := ?_) ?_ ?_ ?_
            rotate_left
            · simp [a, b, e, d, f, g, i, j, m, k, q, o, u, v, w, ab, aa, z, y, ac, ad]; done
            · simp [a, b, e, d, f, g, i, j, m, k, q, o, u, v, w, ab, aa, z, y, ac, ad]; rfl
            refine regv_skip (s1 := ?_) ?_ ?_ ?_
            rotate_left
            · simp [a, b, e, d, f, g, i, j, m, k, q, o, u, v, w, ab, aa, z, y, ac, ad]; done
            · simp [a, b, e, d, f, g, i, j, m, k, q, o, u, v, w, ab, aa, z, y, ac, ad]; rfl
            refine regv_skip (s1 := ?_) ?_ ?_ ?_
            rotate_left
            · simp [a, b, e, d, f, g, i, j, m, k, q, o, u, v, w, ab, aa, z, y, ac, ad]; done
            · simp [a, b, e, d, f, g, i, j, m, k, q, o, u, v, w, ab, aa, z, y, ac, ad]; rfl
            refine regv_skip (s1 := ?_) ?_ ?_ ?_
            rotate_left
            · simp [a, b, e, d, f, g, i, j, m, k, q, o, u, v, w, ab, aa, z, y, ac, ad]; done
            · simp [a, b, e, d, f, g, i, j, m, k, q, o, u, v, w, ab, aa, z, y, ac, ad]; rfl
            iterate 2
              refine regv_pure (s1 := ?_) rfl rfl ?_ ?_ ?_
              rotate_left
              · simp [a, b, e, d, f, g, i, j, m, k, q, o, u, v, w, ab, aa, z, y, ac, ad]; rfl
              · first | (simp [a, b, e, d, f, g, i, j, m, k, q, o, u, v, w, ab, aa, z, y, ac, ad] <;> omega) | (have hq := ad; simp at hq; simp [a, b, e, d, f, g, i, j, m, k, q, o, u, v, w, ab, aa, z, y, ac, ad, hq]; done) | skip
            refine regv_skip (s1 := ?_) ?_ ?_ ?_
            rotate_left
            · simp [a, b, e, d, f, g, i, j, m, k, q, o, u, v, w, ab, aa, z, y, ac, ad]; done
            · simp [a, b, e, d, f, g, i, j, m, k, q, o, u, v, w, ab, aa, z, y, ac, ad]; rfl
            refine regv_skip (s1 := ?_) ?_ ?_ ?_
            rotate_left
            · simp [a, b, e, d, f, g, i, j, m, k, q, o, u, v, w, ab, aa, z, y, ac, ad]; done
            · simp [a, b, e, d, f, g, i, j, m, k, q, o, u, v, w, ab, aa, z, y, ac, ad]; rfl
            iterate 2
              refine regv_pure (s1 := ?_) rfl rfl ?_ ?_ ?_
              rotate_left
              · simp [a, b, e, d, f, g, i, j, m, k, q, o, u, v, w, ab, aa, z, y, ac, ad]; rfl
              · first | (simp [a, b, e, d, f, g, i, j, m, k, q, o, u, v, w, ab, aa, z, y, ac, ad] <;> omega) | (have hq := ad; simp at hq; simp [a, b, e, d, f, g, i, j, m, k, q, o, u, v, w, ab, aa, z, y, ac, ad, hq]; done) | skip
            refine regv_skip (s1 := ?_) ?_ ?_ ?_
            rotate_left
            · simp [a, b, e, d, f, g, i, j, m, k, q, o, u, v, w, ab, aa, z, y, ac, ad]; done
            · simp [a, b, e, d, f, g, i, j, m, k, q, o, u, v, w, ab, aa, z, y, ac, ad]; rfl
            refine regv_skip (s1 := ?_) ?_ ?_ ?_
            rotate_left
            · simp [a, b, e, d, f, g, i, j, m, k, q, o, u, v, w, ab, aa, z, y, ac, ad]; done
            · simp [a, b, e, d, f, g, i, j, m, k, q, o, u, v, w, ab, aa, z, y, ac, ad]; rfl
            iterate 2
              refine regv_pure (s1 := ?_) rfl rfl ?_ ?_ ?_
              rotate_left
              · simp [a, b, e, d, f, g, i, j, m, k, q, o, u, v, w, ab, aa, z, y, ac, ad]; rfl
              · first | (simp [a, b, e, d, f, g, i, j, m, k, q, o, u, v, w, ab, aa, z, y, ac, ad] <;> omega) | (have hq := ad; simp at hq; simp [a, b, e, d, f, g, i, j, m, k, q, o, u, v, w, ab, aa, z, y, ac, ad, hq]; done) | skip
            refine regv_skip (s1 := ?_) ?_ ?_ ?_
            rotate_left
            · simp [a, b, e, d, f, g, i, j, m, k, q, o, u, v, w, ab, aa, z, y, ac, ad]; done
            · simp [a, b, e, d, f, g, i, j, m, k, q, o, u, v, w, ab, aa, z, y, ac, ad]; rfl
            refine regv_skip (s1 := ?_) ?_ ?_ ?_
            rotate_left
            · simp [a, b, e, d, f, g, i, j, m, k, q, o, u, v, w, ab, aa, z, y, ac, ad]; done
            · simp [a, b, e, d, f, g, i, j, m, k, q, o, u, v, w, ab, aa, z, y, ac, ad]; rfl
            refine regv_skip (s1 := ?_) ?_ ?_ ?_
            rotate_left
            · simp [a, b, e, d, f, g, i, j, m, k, q, o, u, v, w, ab, aa, z, y, ac, ad]; done
            · simp [a, b, e, d, f, g, i, j, m, k, q, o, u, v, w, ab, aa, z, y, ac, ad]; rfl
            refine regv_skip (s1 := ?_) ?_ ?_ ?_
            rotate_left
            · simp [a, b, e, d, f, g, i, j, m, k, q, o, u, v, w, ab, aa, z, y, ac, ad]; done
            · simp [a, b, e, d, f, g, i, j, m, k, q, o, u, v, w, ab, aa, z, y, ac, ad]; rfl
            iterate 2
              refine regv_pure (s1 := ?_) rfl rfl ?_ ?_ ?_
              rotate_left
              · simp [a, b, e, d, f, g, i, j, m, k, q, o, u, v, w, ab, aa, z, y, ac, ad]; rfl
              · first | (simp [a, b, e, d, f, g, i, j, m, k, q, o, u, v, w, ab, aa, z, y, ac, ad] <;> omega) | (have hq := ad; simp at hq; simp [a, b, e, d, f, g, i, j, m, k, q, o, u, v, w, ab, aa, z, y, ac, ad, hq]; done) | skip
            refine regv_skip (s1 := ?_) ?_ ?_ ?_
            rotate_left
            · simp [a, b, e, d, f, g, i, j, m, k, q, o, u, v, w, ab, aa, z, y, ac, ad]; done
            · simp [a, b, e, d, f, g, i, j, m, k, q, o, u, v, w, ab, aa, z, y, ac, ad]; rfl
            refine regv_skip (s1 := ?_) ?_ ?_ ?_
            rotate_left
            · simp [a, b, e, d, f, g, i, j, m, k, q, o, u, v, w, ab, aa, z, y, ac, ad]; done
            · simp [a, b, e, d, f, g, i, j, m, k, q, o, u, v, w, ab, aa, z, y, ac, ad]; rfl
            refine regv_skip (s1 := ?_) ?_ ?_ ?_
            rotate_left
            · simp [a, b, e, d, f, g, i, j, m, k, q, o, u, v, w, ab, aa, z, y, ac, ad]; done
            · simp [a, b, e, d, f, g, i, j, m, k, q, o, u, v, w, ab, aa, z, y, ac, ad]; rfl
            refine regv_skip (s1 := ?_) ?_ ?_ ?_
            rotate_left
            · simp [a, b, e, d, f, g, i, j, m, k, q, o, u, v, w, ab, aa, z, y, ac, ad]; done
            · simp [a, b, e, d, f, g, i, j, m, k, q, o, u, v, w, ab, aa, z, y, ac, ad]; rfl
            refine regv_skip (s1 := ?_) ?_ ?_ ?_
            rotate_left
            · simp [a, b, e, d, f, g, i, j, m, k, q, o, u, v, w, ab, aa, z, y, ac, ad]; done
            · simp [a, b, e, d, f, g, i, j, m, k, q, o, u, v, w, ab, aa, z, y, ac, ad]; rfl
            iterate 2
              refine regv_pure (s1 := ?_) rfl rfl ?_ ?_ ?_
              rotate_left
              · simp [a, b, e, d, f, g, i, j, m, k, q, o, u, v, w, ab, aa, z, y, ac, ad]; rfl
              · first | (simp [a, b, e, d, f, g, i, j, m, k, q, o, u, v, w, ab, aa, z, y, ac, ad] <;> omega) | (have hq := ad; simp at hq; simp [a, b, e, d, f, g, i, j, m, k, q, o, u, v, w, ab, aa, z, y, ac, ad, hq]; done) | skip
            refine regv_nil ?_
            cases h
            refine Wp.ret (endQ_ret0 rfl ?_)
            repeat' first | exact All2.nil | refine All2.cons ?_ ?_ | refine AvLe.tups ?_ | refine AvLe.aggs ?_
            all_goals first
              | (exact AvLe.refl _ rfl)
              | (exact AvLe.nil _)
              | (exact AvLe.znil _)
              | (exact AvLe.ghost _ rfl)
              | (exact AvLe.zghost _ rfl)
              | (exact AvLe.sl' rfl (by simp [a, b, e, d, f, g, i, j, m, k, q, o, u, v, w, ab, aa, z, y, ac, ad]; done) (by simp [a, b, e, d, f, g, i, j, m, k, q, o, u, v, w, ab, aa, z, y, ac, ad]; done))
              | (exact AvLe.frz' rfl rfl rfl (by simp [a, b, e, d, f, g, i, j, m, k, q, o, u, v, w, ab, aa, z, y, ac, ad]; done) (by simp [a, b, e, d, f, g, i, j, m, k, q, o, u, v, w, ab, aa, z, y, ac, ad]; done) (by simp [a, b, e, d, f, g, i, j, m, k, q, o, u, v, w, ab, aa, z, y, ac, ad]; done))
              | (exact AvLe.list' (by simp [a, b, e, d, f, g, i, j, m, k, q, o, u, v, w, ab, aa, z, y, ac, ad]; done) (by simp [a, b, e, d, f, g, i, j, m, k, q, o, u, v, w, ab, aa, z, y, ac, ad]; done))
              | (exact AvLe.eq (by simp [a, b, e, d, f, g, i, j, m, k, q, o, u, v, w, ab, aa, z, y, ac, ad]; done) rfl)
          · rw [ad, if_pos rfl] at h
            refine regv_pure (s1 := ?_) rfl ?_ ?_ ?_ ?_
            rotate_left
            · simp [a, b, e, d, f, g, i, j, m, k, q, o, u, v, w, ab, aa, z, y, ac, ad]; done
            · simp [a, b, e, d, f, g, i, j, m, k, q, o, u, v, w, ab, aa, z, y, ac, ad]; rfl
            · first | (simp [a, b, e, d, f, g, i, j, m, k, q, o, u, v, w, ab, aa, z, y, ac, ad] <;> omega) | (have hq := ad; simp at hq; simp [a, b, e, d, f, g, i, j, m, k, q, o, u, v, w, ab, aa, z, y, ac, ad, hq]; done) | skip
            refine regv_pure (s1 := ?_) rfl ?_ ?_ ?_ ?_
            rotate_left
            · simp [a, b, e, d, f, g, i, j, m, k, q, o, u, v, w, ab, aa, z, y, ac, ad]; done
            · simp [a, b, e, d, f, g, i, j, m, k, q, o, u, v, w, ab, aa, z, y, ac, ad]; rfl
            · first | (simp [a, b, e, d, f, g, i, j, m, k, q, o, u, v, w, ab, aa, z, y, ac, ad] <;> omega) | (have hq := ad; simp at hq; simp [a, b, e, d, f, g, i, j, m, k, q, o, u, v, w, ab, aa, z, y, ac, ad, hq]; done) | skip
            obtain ⟨bv, bi, h⟩ := obind h
            obtain ⟨ai, ag, af⟩ := atI_some bi
            try simp [a, b, e, d, f, g, i, j, m, k, q, o, u, v, w, ab, aa, z, y, ac, ad] at ag
            try simp only [Int.toNat_natCast, Int.reduceToNat, Nat.zero_add, Nat.add_zero] at af
            have ae := getElem_of af
            refine regv_pure (s1 := ?_) rfl ?_ ?_ ?_ ?_
            rotate_left
            · simp [a, b, e, d, f, g, i, j, m, k, q, o, u, v, w, ab, aa, z, y, ac, ad, ai, ag, af, ae]; done
            · simp [a, b, e, d, f, g, i, j, m, k, q, o, u, v, w, ab, aa, z, y, ac, ad, ai, ag, af, ae]; rfl
            · first | (simp [a, b, e, d, f, g, i, j, m, k, q, o, u, v, w, ab, aa, z, y, ac, ad, ai, ag, af, ae] <;> omega) | (have hq := ae; simp at hq; simp [a, b, e, d, f, g, i, j, m, k, q, o, u, v, w, ab, aa, z, y, ac, ad, ai, ag, af, ae, hq]; done) | skip
            refine regv_pure (s1 := ?_) rfl ?_ ?_ ?_ ?_
            rotate_left
            · simp [a, b, e, d, f, g, i, j, m, k, q, o, u, v, w, ab, aa, z, y, ac, ad, ai, ag, af, ae]; done
            · simp [a, b, e, d, f, g, i, j, m, k, q, o, u, v, w, ab, aa, z, y, ac, ad, ai, ag, af, ae]; rfl
            · first | (simp [a, b, e, d, f, g, i, j, m, k, q, o, u, v, w, ab, aa, z, y, ac, ad, ai, ag, af, ae] <;> omega) | (have hq := ae; simp at hq; simp [a, b, e, d, f, g, i, j, m, k, q, o, u, v, w, ab, aa, z, y, ac, ad, ai, ag, af, ae, hq]; done) | skip
            iterate 2
              refine regv_pure (s1 := ?_) rfl rfl ?_ ?_ ?_
              rotate_left
              · simp [a, b, e, d, f, g, i, j, m, k, q, o, u, v, w, ab, aa, z, y, ac, ad, ai, ag, af, ae]; rfl
              · first | (simp [a, b, e, d, f, g, i, j, m, k, q, o, u, v, w, ab, aa, z, y, ac, ad, ai, ag, af, ae] <;> omega) | (have hq := ae; simp at hq; simp [a, b, e, d, f, g, i, j, m, k, q, o, u, v, w, ab, aa, z, y, ac, ad, ai, ag, af, ae, hq]; done) | skip
            refine (Bool.eq_false_or_eq_true bv).symm.elim (fun aj => ?_) (fun aj => ?_)
            · rw [if_neg (by rw [aj]; simp)] at h
              refine regv_skip (s1 := ?_) ?_ ?_ ?_
              rotate_left
              · simp [a, b, e, d, f, g, i, j, m, k, q, o, u, v, w, ab, aa, z, y, ac, ad, ai, ag, af, ae, aj]; done
              · simp [a, b, e, d, f, g, i, j, m, k, q, o, u, v, w, ab, aa, z, y, ac, ad, ai, ag, af, ae, aj]; rfl
              refine regv_skip (s1 := ?_) ?_ ?_ ?_
              rotate_left
              · simp [a, b, e, d, f, g, i, j, m, k, q, o, u, v, w, ab, aa, z, y, ac, ad, ai, ag, af, ae, aj]; done
              · simp [a, b, e, d, f, g, i, j, m, k, q, o, u, v, w, ab, aa, z, y, ac, ad, ai, ag, af, ae, aj]; rfl
              iterate 2
                refine regv_pure (s1 := ?_) rfl rfl ?_ ?_ ?_
                rotate_left
                · simp [a, b, e, d, f, g, i, j, m, k, q, o, u, v, w, ab, aa, z, y, ac, ad, ai, ag, af, ae, aj]; rfl
                · first | (simp [a, b, e, d, f, g, i, j, m, k, q, o, u, v, w, ab, aa, z, y, ac, ad, ai, ag, af, ae, aj] <;> omega) | (have hq := aj; simp at hq; simp [a, b, e, d, f, g, i, j, m, k, q, o, u, v, w, ab, aa, z, y, ac, ad, ai, ag, af, ae, aj, hq]; done) | skip
              refine regv_skip (s1 := ?_) ?_ ?_ ?_
              rotate_left
              · simp [a, b, e, d, f, g, i, j, m, k, q, o, u, v, w, ab, aa, z, y, ac, ad, ai, ag, af, ae, aj]; done
              · simp [a, b, e, d, f, g, i, j, m, k, q, o, u, v, w, ab, aa, z, y, ac, ad, ai, ag, af, ae, aj]; rfl
              refine regv_skip (s1 := ?_) ?_ ?_ ?_
              rotate_left
              · simp [a, b, e, d, f, g, i, j, m, k, q, o, u, v, w, ab, aa, z, y, ac, ad, ai, ag, af, ae, aj]; done
              · simp [a, b, e, d, f, g, i, j, m, k, q, o, u, v, w, ab, aa, z, y, ac, ad, ai, ag, af, ae, aj]; rfl
              iterate 2
                refine regv_pure (s1 := ?_) rfl rfl ?_ ?_ ?_
                rotate_left
                · simp [a, b, e, d, f, g, i, j, m, k, q, o, u, v, w, ab, aa, z, y, ac, ad, ai, ag, af, ae, aj]; rfl
                · first | (simp [a, b, e, d, f, g, i, j, m, k, q, o, u, v, w, ab, aa, z, y, ac, ad, ai, ag, af, ae, aj] <;> omega) | (have hq := aj; simp at hq; simp [a, b, e, d, f, g, i, j, m, k, q, o, u, v, w, ab, aa, z, y, ac, ad, ai, ag, af, ae, aj, hq]; done) | skip
              refine regv_skip (s1 := ?_) ?_ ?_ ?_
              rotate_left
              · simp [a, b, e, d, f, g, i, j, m, k, q, o, u, v, w, ab, aa, z, y, ac, ad, ai, ag, af, ae, aj]; done
              · simp [a, b, e, d, f, g, i, j, m, k, q, o, u, v, w, ab, aa, z, y, ac, ad, ai, ag, af, ae, aj]; rfl
              refine regv_skip (s1 := ?_) ?_ ?_ ?_
              rotate_left
              · simp [a, b, e, d, f, g, i, j, m, k, q, o, u, v, w, ab, aa, z, y, ac, ad, ai, ag, af, ae, aj]; done
              · simp [a, b, e, d, f, g, i, j, m, k, q, o, u, v, w, ab, aa, z, y, ac, ad, ai, ag, af, ae, aj]; rfl
              refine regv_skip (s1 := ?_) ?_ ?_ ?_
              rotate_left
              · simp [a, b, e, d, f, g, i, j, m, k, q, o, u, v, w, ab, aa, z, y, ac, ad, ai, ag, af, ae, aj]; done
              · simp [a, b, e, d, f, g, i, j, m, k, q, o, u, v, w, ab, aa, z, y, ac, ad, ai, ag, af, ae, aj]; rfl
              refine regv_skip (s1 := ?_) ?_ ?_ ?_
              rotate_left
              · simp [a, b, e, d, f, g, i, j, m, k, q, o, u, v, w, ab, aa, z, y, ac, ad, ai, ag, af, ae, aj]; done
              · simp [a, b, e, d, f, g, i, j, m, k, q, o, u, v, w, ab, aa, z, y, ac, ad, ai, ag, af, ae, aj]; rfl
              iterate 2
                refine regv_pure (s1 := ?_) rfl rfl ?_ ?_ ?_
                rotate_left
                · simp [a, b, e, d, f, g, i, j, m, k, q, o, u, v, w, ab, aa, z, y, ac, ad, ai, ag, af, ae, aj]; rfl
                · first | (simp [a, b, e, d, f, g, i, j, m, k, q, o, u, v, w, ab, aa, z, y, ac, ad, ai, ag, af, ae, aj] <;> omega) | (have hq := aj; simp at hq; simp [a, b, e, d, f, g, i, j, m, k, q, o, u, v, w, ab, aa, z, y, ac, ad, ai, ag, af, ae, aj, hq]; done) | skip
              refine regv_skip (s1 := ?_) ?_ ?_ ?_
              rotate_left
              · simp [a, b, e, d, f, g, i, j, m, k, q, o, u, v, w, ab, aa, z, y, ac, ad, ai, ag, af, ae, aj]; done
              · simp [a, b, e, d, f, g, i, j, m, k, q, o, u, v, w, ab, aa, z, y, ac, ad, ai, ag, af, ae, aj]; rfl
              refine regv_skip (s1 := ?_) ?_ ?_ ?_
              rotate_left
              · simp [a, b, e, d, f, g, i, j, m, k, q, o, u, v, w, ab, aa, z, y, ac, ad, ai, ag, af, ae, aj]; done
              · simp [a, b, e, d, f, g, i, j, m, k, q, o, u, v, w, ab, aa, z, y, ac, ad, ai, ag, af, ae, aj]; rfl
              refine regv_skip (s1 := ?_) ?_ ?_ ?_
              rotate_left
              · simp [a, b, e, d, f, g, i, j, m, k, q, o, u, v, w, ab, aa, z, y, ac, ad, ai, ag, af, ae, aj]; done
              · simp [a, b, e, d, f, g, i, j, m, k, q, o, u, v, w, ab, aa, z, y, ac, ad, ai, ag, af, ae, aj]; rfl
              refine regv_skip (s1 := ?_) ?_ ?_ ?_
              rotate_left
              · simp [a, b, e, d, f, g, i, j, m, k, q, o, u, v, w, ab, aa, z, y, ac, ad, ai, ag, af, ae, aj]; done
              · simp [a, b, e, d, f, g, i, j, m, k, q, o, u, v, w, ab, aa, z, y, ac, ad, ai, ag, af, ae, aj]; rfl
              refine regv_skip (s1 := ?_) ?_ ?_ ?_
              rotate_left
              · simp [a, b, e, d, f, g, i, j, m, k, q, o, u, v, w, ab, aa, z, y, ac, ad, ai, ag, af, ae, aj]; done
              · simp [a, b, e, d, f, g, i, j, m, k, q, o, u, v, w, ab, aa, z, y, ac, ad, ai, ag, af, ae, aj]; rfl
              iterate 2
                refine regv_pure (s1 := ?_) rfl rfl ?_ ?_ ?_
                rotate_left
                · simp [a, b, e, d, f, g, i, j, m, k, q, o, u, v, w, ab, aa, z, y, ac, ad, ai, ag, af, ae, aj]; rfl
                · first | (simp [a, b, e, d, f, g, i, j, m, k, q, o, u, v, w, ab, aa, z, y, ac, ad, ai, ag, af, ae, aj] <;> omega) | (have hq := aj; simp at hq; simp [a, b, e, d, f, g, i, j, m, k, q, o, u, v, w, ab, aa, z, y, ac, ad, ai, ag, af, ae, aj, hq]; done) | skip
              refine regv_nil ?_
              cases h
              refine Wp.ret (endQ_ret0 rfl ?_)
              repeat' first | exact All2.nil | refine All2.cons ?_ ?_ | refine AvLe.tups ?_ | refine AvLe.aggs ?_
              all_goals first
                | (exact AvLe.refl _ rfl)
                | (exact AvLe.nil _)
                | (exact AvLe.znil _)
                | (exact AvLe.ghost _ rfl)
                | (exact AvLe.zghost _ rfl)
                | (exact AvLe.sl' rfl (by simp [a, b, e, d, f, g, i, j, m, k, q, o, u, v, w, ab, aa, z, y, ac, ad, ai, ag, af, ae, aj]; done) (by simp [a, b, e, d, f, g, i, j, m, k, q, o, u, v, w, ab, aa, z, y, ac, ad, ai, ag, af, ae, aj]; done))
                | (exact AvLe.frz' rfl rfl rfl (by simp [a, b, e, d, f, g, i, j, m, k, q, o, u, v, w, ab, aa, z, y, ac, ad, ai, ag, af, ae, aj]; done) (by simp [a, b, e, d, f, g, i, j, m, k, q, o, u, v, w, ab, aa, z, y, ac, ad, ai, ag, af, ae, aj]; done) (by simp [a, b, e, d, f, g, i, j, m, k, q, o, u, v, w, ab, aa, z, y, ac, ad, ai, ag, af, ae, aj]; done))
                | (exact AvLe.list' (by simp [a, b, e, d, f, g, i, j, m, k, q, o, u, v, w, ab, aa, z, y, ac, ad, ai, ag, af, ae, aj]; done) (by simp [a, b, e, d, f, g, i, j, m, k, q, o, u, v, w, ab, aa, z, y, ac, ad, ai, ag, af, ae, aj]; done))
                | (exact AvLe.eq (by simp [a, b, e, d, f, g, i, j, m, k, q, o, u, v, w, ab, aa, z, y, ac, ad, ai, ag, af, ae, aj]; done) rfl)
            · rw [if_pos aj] at h
              refine regv_pure (s1 := ?_) rfl ?_ ?_ ?_ ?_
              rotate_left
              · simp [a, b, e, d, f, g, i, j, m, k, q, o, u, v, w, ab, aa, z, y, ac, ad, ai, ag, af, ae, aj]; done
              · simp [a, b, e, d, f, g, i, j, m, k, q, o, u, v, w, ab, aa, z, y, ac, ad, ai, ag, af, ae, aj]; rfl
              · first | (simp [a, b, e, d, f, g, i, j, m, k, q, o, u, v, w, ab, aa, z, y, ac, ad, ai, ag, af, ae, aj] <;> omega) | (have hq := aj; simp at hq; simp [a, b, e, d, f, g, i, j, m, k, q, o, u, v, w, ab, aa, z, y, ac, ad, ai, ag, af, ae, aj, hq]; done) | skip
              refine regv_pure (s1 := ?_) rfl ?_ ?_ ?_ ?_
              rotate_left
              · simp [a, b, e, d, f, g, i, j, m, k, q, o, u, v, w, ab, aa, z, y, ac, ad, ai, ag, af, ae, aj]; done
              · simp [a, b, e, d, f, g, i, j, m, k, q, o, u, v, w, ab, aa, z, y, ac, ad, ai, ag, af, ae, aj]; rfl
              · first | (simp [a, b, e, d, f, g, i, j, m, k, q, o, u, v, w, ab, aa, z, y, ac, ad, ai, ag, af, ae, aj] <;> omega) | (have hq := aj; simp at hq; simp [a, b, e, d, f, g, i, j, m, k, q, o, u, v, w, ab, aa, z, y, ac, ad, ai, ag, af, ae, aj, hq]; done) | skip
              iterate 2
                refine regv_pure (s1 := ?_) rfl rfl ?_ ?_ ?_
                rotate_left
                · simp [a, b, e, d, f, g, i, j, m, k, q, o, u, v, w, ab, aa, z, y, ac, ad, ai, ag, af, ae, aj]; rfl
                · first | (simp [a, b, e, d, f, g, i, j, m, k, q, o, u, v, w, ab, aa, z, y, ac, ad, ai, ag, af, ae, aj] <;> omega) | (have hq := aj; simp at hq; simp [a, b, e, d, f, g, i, j, m, k, q, o, u, v, w, ab, aa, z, y, ac, ad, ai, ag, af, ae, aj, hq]; done) | skip
              cases ak : (bq == 0)
              · rw [ak, if_neg (by simp)] at h
                refine regv_skip (s1 := ?_) ?_ ?_ ?_
                rotate_left
                · simp [a, b, e, d, f, g, i, j, m, k, q, o, u, v, w, ab, aa, z, y, ac, ad, ai, ag, af, ae, aj, ak]; done
                · simp [a, b, e, d, f, g, i, j, m, k, q, o, u, v, w, ab, aa, z, y, ac, ad, ai, ag, af, ae, aj, ak]; rfl
                refine regv_skip (s1 := ?_) ?_ ?_ ?_
                rotate_left
                · simp [a, b, e, d, f, g, i, j, m, k, q, o, u, v, w, ab, aa, z, y, ac, ad, ai, ag, af, ae, aj, ak]; done
                · simp [a, b, e, d, f, g, i, j, m, k, q, o, u, v, w, ab, aa, z, y, ac, ad, ai, ag, af, ae, aj, ak]; rfl
                iterate 2
                  refine regv_pure (s1 := ?_) rfl rfl ?_ ?_ ?_
                  rotate_left
                  · simp [a, b, e, d, f, g, i, j, m, k, q, o, u, v, w, ab, aa, z, y, ac, ad, ai, ag, af, ae, aj, ak]; rfl
                  · first | (simp [a, b, e, d, f, g, i, j, m, k, q, o, u, v, w, ab, aa, z, y, ac, ad, ai, ag, af, ae, aj, ak] <;> omega) | (have hq := ak; simp at hq; simp [a, b, e, d, f, g, i, j, m, k, q, o, u, v, w, ab, aa, z, y, ac, ad, ai, ag, af, ae, aj, ak, hq]; done) | skip
                refine regv_skip (s1 := ?_) ?_ ?_ ?_
                rotate_left
                · simp [a, b, e, d, f, g, i, j, m, k, q, o, u, v, w, ab, aa, z, y, ac, ad, ai, ag, af, ae, aj, ak]; done
                · simp [a, b, e, d, f, g, i, j, m, k, q, o, u, v, w, ab, aa, z, y, ac, ad, ai, ag, af, ae, aj, ak]; rfl
                refine regv_skip (s1 := ?_) ?_ ?_ ?_
                rotate_left
                · simp [a, b, e, d, f, g, i, j, m, k, q, o, u, v, w, ab, aa, z, y, ac, ad, ai, ag, af, ae, aj, ak]; done
                · simp [a, b, e, d, f, g, i, j, m, k, q, o, u, v, w, ab, aa, z, y, ac, ad, ai, ag, af, ae, aj, ak]; rfl
                refine regv_skip (s1 := ?_) ?_ ?_ ?_
                rotate_left
                · simp [a, b, e, d, f, g, i, j, m, k, q, o, u, v, w, ab, aa, z, y, ac, ad, ai, ag, af, ae, aj, ak]; done
                · simp [a, b, e, d, f, g, i, j, m, k, q, o, u, v, w, ab, aa, z, y, ac, ad, ai, ag, af, ae, aj, ak]; rfl
                refine regv_skip (s1 := ?_) ?_ ?_ ?_
                rotate_left
                · simp [a, b, e, d, f, g, i, j, m, k, q, o, u, v, w, ab, aa, z, y, ac, ad, ai, ag, af, ae, aj, ak]; done
                · simp [a, b, e, d, f, g, i, j, m, k, q, o, u, v, w, ab, aa, z, y, ac, ad, ai, ag, af, ae, aj, ak]; rfl
                iterate 2
                  refine regv_pure (s1 := ?_) rfl rfl ?_ ?_ ?_
                  rotate_left
                  · simp [a, b, e, d, f, g, i, j, m, k, q, o, u, v, w, ab, aa, z, y, ac, ad, ai, ag, af, ae, aj, ak]; rfl
                  · first | (simp [a, b, e, d, f, g, i, j, m, k, q, o, u, v, w, ab, aa, z, y, ac, ad, ai, ag, af, ae, aj, ak] <;> omega) | (have hq := ak; simp at hq; simp [a, b, e, d, f, g, i, j, m, k, q, o, u, v, w, ab, aa, z, y, ac, ad, ai, ag, af, ae, aj, ak, hq]; done) | skip
                refine regv_skip (s1 := ?_) ?_ ?_ ?_
                rotate_left
                · simp [a, b, e, d, f, g, i, j, m, k, q, o, u, v, w, ab, aa, z, y, ac, ad, ai, ag, af, ae, aj, ak]; done
                · simp [a, b, e, d, f, g, i, j, m, k, q, o, u, v, w, ab, aa, z, y, ac, ad, ai, ag, af, ae, aj, ak]; rfl
                refine regv_skip (s1 := ?_) ?_ ?_ ?_
                rotate_left
                · simp [a, b, e, d, f, g, i, j, m, k, q, o, u, v, w, ab, aa, z, y, ac, ad, ai, ag, af, ae, aj, ak]; done
                · simp [a, b, e, d, f, g, i, j, m, k, q, o, u, v, w, ab, aa, z, y, ac, ad, ai, ag, af, ae, aj, ak]; rfl
                refine regv_skip (s1 := ?_) ?_ ?_ ?_
                rotate_left
                · simp [a, b, e, d, f, g, i, j, m, k, q, o, u, v, w, ab, aa, z, y, ac, ad, ai, ag, af, ae, aj, ak]; done
                · simp [a, b, e, d, f, g, i, j, m, k, q, o, u, v, w, ab, aa, z, y, ac, ad, ai, ag, af, ae, aj, ak]; rfl
                refine regv_skip (s1 := ?_) ?_ ?_ ?_
                rotate_left
                · simp [a, b, e, d, f, g, i, j, m, k, q, o, u, v, w, ab, aa, z, y, ac, ad, ai, ag, af, ae, aj, ak]; done
                · simp [a, b, e, d, f, g, i, j, m, k, q, o, u, v, w, ab, aa, z, y, ac, ad, ai, ag, af, ae, aj, ak]; rfl
                refine regv_skip (s1 := ?_) ?_ ?_ ?_
                rotate_left
                · simp [a, b, e, d, f, g, i, j, m, k, q, o, u, v, w, ab, aa, z, y, ac, ad, ai, ag, af, ae, aj, ak]; done
                · simp [a, b, e, d, f, g, i, j, m, k, q, o, u, v, w, ab, aa, z, y, ac, ad, ai, ag, af, ae, aj, ak]; rfl
                iterate 2
                  refine regv_pure (s1 := ?_) rfl rfl ?_ ?_ ?_
                  rotate_left
                  · simp [a, b, e, d, f, g, i, j, m, k, q, o, u, v, w, ab, aa, z, y, ac, ad, ai, ag, af, ae, aj, ak]; rfl
                  · first | (simp [a, b, e, d, f, g, i, j, m, k, q, o, u, v, w, ab, aa, z, y, ac, ad, ai, ag, af, ae, aj, ak] <;> omega) | (have hq := ak; simp at hq; simp [a, b, e, d, f, g, i, j, m, k, q, o, u, v, w, ab, aa, z, y, ac, ad, ai, ag, af, ae, aj, ak, hq]; done) | skip
                refine regv_nil ?_
                cases h
                refine Wp.ret (endQ_ret0 rfl ?_)
                repeat' first | exact All2.nil | refine All2.cons ?_ ?_ | refine AvLe.tups ?_ | refine AvLe.aggs ?_
                all_goals first
                  | (exact AvLe.refl _ rfl)
                  | (exact AvLe.nil _)
                  | (exact AvLe.znil _)
                  | (exact AvLe.ghost _ rfl)
                  | (exact AvLe.zghost _ rfl)
                  | (exact AvLe.sl' rfl (by simp [a, b, e, d, f, g, i, j, m, k, q, o, u, v, w, ab, aa, z, y, ac, ad, ai, ag, af, ae, aj, ak]; done) (by simp [a, b, e, d, f, g, i, j, m, k, q, o, u, v, w, ab, aa, z, y, ac, ad, ai, ag, af, ae, aj, ak]; done))
                  | (exact AvLe.frz' rfl rfl rfl (by simp [a, b, e, d, f, g, i, j, m, k, q, o, u, v, w, ab, aa, z, y, ac, ad, ai, ag, af, ae, aj, ak]; done) (by simp [a, b, e, d, f, g, i, j, m, k, q, o, u, v, w, ab, aa, z, y, ac, ad, ai, ag, af, ae, aj, ak]; done) (by simp [a, b, e, d, f, g, i, j, m, k, q, o, u, v, w, ab, aa, z, y, ac, ad, ai, ag, af, ae, aj, ak]; done))
                  | (exact AvLe.list' (by simp [a, b, e, d, f, g, i, j, m, k, q, o, u, v, w, ab, aa, z, y, ac, ad, ai, ag, af, ae, aj, ak]; done) (by simp [a, b, e, d, f, g, i, j, m, k, q, o, u, v, w, ab, aa, z, y, ac, ad, ai, ag, af, ae, aj, ak]; done))
                  | (exact AvLe.eq (by simp [a, b, e, d, f, g, i, j, m, k, q, o, u, v, w, ab, aa, z, y, ac, ad, ai, ag, af, ae, aj, ak]; done) rfl)
              · rw [ak, if_pos rfl] at h
                refine regv_pure (s1 := ?_) rfl ?_ ?_ ?_ ?_
                rotate_left
                · simp [a, b, e, d, f, g, i, j, m, k, q, o, u, v, w, ab, aa, z, y, ac, ad, ai, ag, af, ae, aj, ak]; done
                · simp [a, b, e, d, f, g, i, j, m, k, q, o, u, v, w, ab, aa, z, y, ac, ad, ai, ag, af, ae, aj, ak]; rfl
                · first | (simp [a, b, e, d, f, g, i, j, m, k, q, o, u, v, w, ab, aa, z, y, ac, ad, ai, ag, af, ae, aj, ak] <;> omega) | (have hq := ak; simp at hq; simp [a, b, e, d, f, g, i, j, m, k, q, o, u, v, w, ab, aa, z, y, ac, ad, ai, ag, af, ae, aj, ak, hq]; done) | skip
                refine regv_pure (s1 := ?_) rfl ?_ ?_ ?_ ?_
                rotate_left
                · simp [a, b, e, d, f, g, i, j, m, k, q, o, u, v, w, ab, aa, z, y, ac, ad, ai, ag, af, ae, aj, ak]; done
                · simp [a, b, e, d, f, g, i, j, m, k, q, o, u, v, w, ab, aa, z, y, ac, ad, ai, ag, af, ae, aj, ak]; rfl
                · first | (simp [a, b, e, d, f, g, i, j, m, k, q, o, u, v, w, ab, aa, z, y, ac, ad, ai, ag, af, ae, aj, ak] <;> omega) | (have hq := ak; simp at hq; simp [a, b, e, d, f, g, i, j, m, k, q, o, u, v, w, ab, aa, z, y, ac, ad, ai, ag, af, ae, aj, ak, hq]; done) | skip
                iterate 2
                  refine regv_pure (s1 := ?_) rfl rfl ?_ ?_ ?_
                  rotate_left
                  · simp [a, b, e, d, f, g, i, j, m, k, q, o, u, v, w, ab, aa, z, y, ac, ad, ai, ag, af, ae, aj, ak]; rfl
                  · first | (simp [a, b, e, d, f, g, i, j, m, k, q, o, u, v, w, ab, aa, z, y, ac, ad, ai, ag, af, ae, aj, ak] <;> omega) | (have hq := ak; simp at hq; simp [a, b, e, d, f, g, i, j, m, k, q, o, u, v, w, ab, aa, z, y, ac, ad, ai, ag, af, ae, aj, ak, hq]; done) | skip
                cases am : (!bp)
                · rw [am, if_neg (by simp)] at h
                  refine regv_skip (s1 := ?_) ?_ ?_ ?_
                  rotate_left
                  · simp [a, b, e, d, f, g, i, j, m, k, q, o, u, v, w, ab, aa, z, y, ac, ad, ai, ag, af, ae, aj, ak, am]; done
                  · simp [a, b, e, d, f, g, i, j, m, k, q, o, u, v, w, ab, aa, z, y, ac, ad, ai, ag, af, ae, aj, ak, am]; rfl
                  refine regv_skip (s1 := ?_) ?_ ?_ ?_
                  rotate_left
                  · simp [a, b, e, d, f, g, i, j, m, k, q, o, u, v, w, ab, aa, z, y, ac, ad, ai, ag, af, ae, aj, ak, am]; done
                  · simp [a, b, e, d, f, g, i, j, m, k, q, o, u, v, w, ab, aa, z, y, ac, ad, ai, ag, af, ae, aj, ak, am]; rfl
                  refine regv_skip (s1 := ?_) ?_ ?_ ?_
                  rotate_left
                  · simp [a, b, e, d, f, g, i, j, m, k, q, o, u, v, w, ab, aa, z, y, ac, ad, ai, ag, af, ae, aj, ak, am]; done
                  · simp [a, b, e, d, f, g, i, j, m, k, q, o, u, v, w, ab, aa, z, y, ac, ad, ai, ag, af, ae, aj, ak, am]; rfl
                  refine regv_skip (s1 := ?_) ?_ ?_ ?_
                  rotate_left
                  · simp [a, b, e, d, f, g, i, j, m, k, q, o, u, v, w, ab, aa, z, y, ac, ad, ai, ag, af, ae, aj, ak, am]; done
                  · simp [a, b, e, d, f, g, i, j, m, k, q, o, u, v, w, ab, aa, z, y, ac, ad, ai, ag, af, ae, aj, ak, am]; rfl
                  iterate 2
                    refine regv_pure (s1 := ?_) rfl rfl ?_ ?_ ?_
                    rotate_left
                    · simp [a, b, e, d, f, g, i, j, m, k, q, o, u, v, w, ab, aa, z, y, ac, ad, ai, ag, af, ae, aj, ak, am]; rfl
                    · first | (simp [a, b, e, d, f, g, i, j, m, k, q, o, u, v, w, ab, aa, z, y, ac, ad, ai, ag, af, ae, aj, ak, am] <;> omega) | (have hq := am; simp at hq; simp [a, b, e, d, f, g, i, j, m, k, q, o, u, v, w, ab, aa, z, y, ac, ad, ai, ag, af, ae, aj, ak, am, hq]; done) | skip
                  refine regv_skip (s1 := ?_) ?_ ?_ ?_
                  rotate_left
                  · simp [a, b, e, d, f, g, i, j, m, k, q, o, u, v, w, ab, aa, z, y, ac, ad, ai, ag, af, ae, aj, ak, am]; done
                  · simp [a, b, e, d, f, g, i, j, m, k, q, o, u, v, w, ab, aa, z, y, ac, ad, ai, ag, af, ae, aj, ak, am]; rfl
                  refine regv_skip (s1 := ?_) ?_ ?_ ?_
                  rotate_left
                  · simp [a, b, e, d, f, g, i, j, m, k, q, o, u, v, w, ab, aa, z, y, ac, ad, ai, ag, af, ae, aj, ak, am]; done
                  · simp [a, b, e, d, f, g, i, j, m, k, q, o, u, v, w, ab, aa, z, y, ac, ad, ai, ag, af, ae, aj, ak, am]; rfl
                  refine regv_skip (s1 := ?_) ?_ ?_ ?_
                  rotate_left
                  · simp [a, b, e, d, f, g, i, j, m, k, q, o, u, v, w, ab, aa, z, y, ac, ad, ai, ag, af, ae, aj, ak, am]; done
                  · simp [a, b, e, d, f, g, i, j, m, k, q, o, u, v, w, ab, aa, z, y, ac, ad, ai, ag, af, ae, aj, ak, am]; rfl
                  refine regv_skip (s1 := ?_) ?_ ?_ ?_
                  rotate_left
                  · simp [a, b, e, d, f, g, i, j, m, k, q, o, u, v, w, ab, aa, z, y, ac, ad, ai, ag, af, ae, aj, ak, am]; done
                  · simp [a, b, e, d, f, g, i, j, m, k, q, o, u, v, w, ab, aa, z, y, ac, ad, ai, ag, af, ae, aj, ak, am]; rfl
                  refine regv_skip (s1 := ?_) ?_ ?_ ?_
                  rotate_left
                  · simp [a, b, e, d, f, g, i, j, m, k, q, o, u, v, w, ab, aa, z, y, ac, ad, ai, ag, af, ae, aj, ak, am]; done
                  · simp [a, b, e, d, f, g, i, j, m, k, q, o, u, v, w, ab, aa, z, y, ac, ad, ai, ag, af, ae, aj, ak, am]; rfl
                  iterate 2
                    refine regv_pure (s1 := ?_) rfl rfl ?_ ?_ ?_
                    rotate_left
                    · simp [a, b, e, d, f, g, i, j, m, k, q, o, u, v, w, ab, aa, z, y, ac, ad, ai, ag, af, ae, aj, ak, am]; rfl
                    · first | (simp [a, b, e, d, f, g, i, j, m, k, q, o, u, v, w, ab, aa, z, y, ac, ad, ai, ag, af, ae, aj, ak, am] <;> omega) | (have hq := am; simp at hq; simp [a, b, e, d, f, g, i, j, m, k, q, o, u, v, w, ab, aa, z, y, ac, ad, ai, ag, af, ae, aj, ak, am, hq]; done) | skip
                  refine regv_nil ?_
                  cases h
                  refine Wp.ret (endQ_ret0 rfl ?_)
                  repeat' first | exact All2.nil | refine All2.cons ?_ ?_ | refine AvLe.tups ?_ | refine AvLe.aggs ?_
                  all_goals first
                    | (exact AvLe.refl _ rfl)
                    | (exact AvLe.nil _)
                    | (exact AvLe.znil _)
                    | (exact AvLe.ghost _ rfl)
                    | (exact AvLe.zghost _ rfl)
                    | (exact AvLe.sl' rfl (by simp [a, b, e, d, f, g, i, j, m, k, q, o, u, v, w, ab, aa, z, y, ac, ad, ai, ag, af, ae, aj, ak, am]; done) (by simp [a, b, e, d, f, g, i, j, m, k, q, o, u, v, w, ab, aa, z, y, ac, ad, ai, ag, af, ae, aj, ak, am]; done))
                    | (exact AvLe.frz' rfl rfl rfl (by simp [a, b, e, d, f, g, i, j, m, k, q, o, u, v, w, ab, aa, z, y, ac, ad, ai, ag, af, ae, aj, ak, am]; done) (by simp [a, b, e, d, f, g, i, j, m, k, q, o, u, v, w, ab, aa, z, y, ac, ad, ai, ag, af, ae, aj, ak, am]; done) (by simp [a, b, e, d, f, g, i, j, m, k, q, o, u, v, w, ab, aa, z, y, ac, ad, ai, ag, af, ae, aj, ak, am]; done))
                    | (exact AvLe.list' (by simp [a, b, e, d, f, g, i, j, m, k, q, o, u, v, w, ab, aa, z, y, ac, ad, ai, ag, af, ae, aj, ak, am]; done) (by simp [a, b, e, d, f, g, i, j, m, k, q, o, u, v, w, ab, aa, z, y, ac, ad, ai, ag, af, ae, aj, ak, am]; done))
                    | (exact AvLe.eq (by simp [a, b, e, d, f, g, i, j, m, k, q, o, u, v, w, ab, aa, z, y, ac, ad, ai, ag, af, ae, aj, ak, am]; done) rfl)
                · rw [am, if_pos rfl] at h
                  refine regv_pure (s1 := ?_) rfl ?_ ?_ ?_ ?_
                  rotate_left
                  · simp [a, b, e, d, f, g, i, j, m, k, q, o, u, v, w, ab, aa, z, y, ac, ad, ai, ag, af, ae, aj, ak, am]; done
                  · simp [a, b, e, d, f, g, i, j, m, k, q, o, u, v, w, ab, aa, z, y, ac, ad, ai, ag, af, ae, aj, ak, am]; rfl
                  · first | (simp [a, b, e, d, f, g, i, j, m, k, q, o, u, v, w, ab, aa, z, y, ac, ad, ai, ag, af, ae, aj, ak, am] <;> omega) | (have hq := am; simp at hq; simp [a, b, e, d, f, g, i, j, m, k, q, o, u, v, w, ab, aa, z, y, ac, ad, ai, ag, af, ae, aj, ak, am, hq]; done) | skip
                  refine regv_pure (s1 := ?_) rfl ?_ ?_ ?_ ?_
                  rotate_left
                  · simp [a, b, e, d, f, g, i, j, m, k, q, o, u, v, w, ab, aa, z, y, ac, ad, ai, ag, af, ae, aj, ak, am]; done
                  · simp [a, b, e, d, f, g, i, j, m, k, q, o, u, v, w, ab, aa, z, y, ac, ad, ai, ag, af, ae, aj, ak, am]; rfl
                  · first | (simp [a, b, e, d, f, g, i, j, m, k, q, o, u, v, w, ab, aa, z, y, ac, ad, ai, ag, af, ae, aj, ak, am] <;> omega) | (have hq := am; simp at hq; simp [a, b, e, d, f, g, i, j, m, k, q, o, u, v, w, ab, aa, z, y, ac, ad, ai, ag, af, ae, aj, ak, am, hq]; done) | skip
                  refine regv_pure (s1 := ?_) rfl ?_ ?_ ?_ ?_
                  rotate_left
                  · simp [a, b, e, d, f, g, i, j, m, k, q, o, u, v, w, ab, aa, z, y, ac, ad, ai, ag, af, ae, aj, ak, am]; done
                  · simp [a, b, e, d, f, g, i, j, m, k, q, o, u, v, w, ab, aa, z, y, ac, ad, ai, ag, af, ae, aj, ak, am]; rfl
                  · first | (simp [a, b, e, d, f, g, i, j, m, k, q, o, u, v, w, ab, aa, z, y, ac, ad, ai, ag, af, ae, aj, ak, am] <;> omega) | (have hq := am; simp at hq; simp [a, b, e, d, f, g, i, j, m, k, q, o, u, v, w, ab, aa, z, y, ac, ad, ai, ag, af, ae, aj, ak, am, hq]; done) | skip
                  refine regv_pure (s1 := ?_) rfl ?_ ?_ ?_ ?_
                  rotate_left
                  · simp [a, b, e, d, f, g, i, j, m, k, q, o, u, v, w, ab, aa, z, y, ac, ad, ai, ag, af, ae, aj, ak, am]; done
                  · simp [a, b, e, d, f, g, i, j, m, k, q, o, u, v, w, ab, aa, z, y, ac, ad, ai, ag, af, ae, aj, ak, am]; rfl
                  · first | (simp [a, b, e, d, f, g, i, j, m, k, q, o, u, v, w, ab, aa, z, y, ac, ad, ai, ag, af, ae, aj, ak, am] <;> omega) | (have hq := am; simp at hq; simp [a, b, e, d, f, g, i, j, m, k, q, o, u, v, w, ab, aa, z, y, ac, ad, ai, ag, af, ae, aj, ak, am, hq]; done) | skip
                  iterate 2
                    refine regv_pure (s1 := ?_) rfl rfl ?_ ?_ ?_
                    rotate_left
                    · simp [a, b, e, d, f, g, i, j, m, k, q, o, u, v, w, ab, aa, z, y, ac, ad, ai, ag, af, ae, aj, ak, am]; rfl
                    · first | (simp [a, b, e, d, f, g, i, j, m, k, q, o, u, v, w, ab, aa, z, y, ac, ad, ai, ag, af, ae, aj, ak, am] <;> omega) | (have hq := am; simp at hq; simp [a, b, e, d, f, g, i, j, m, k, q, o, u, v, w, ab, aa, z, y, ac, ad, ai, ag, af, ae, aj, ak, am, hq]; done) | skip
                  cases ao : ((bo.Q.length : Int) == 1)
                  · rw [ao, if_neg (by simp)] at h
                    refine regv_skip (s1 := ?_) ?_ ?_ ?_
                    rotate_left
                    · simp [a, b, e, d, f, g, i, j, m, k, q, o, u, v, w, ab, aa, z, y, ac, ad, ai, ag, af, ae, aj, ak, am, ao]; done
                    · simp [a, b, e, d, f, g, i, j, m, k, q, o, u, v, w, ab, aa, z, y, ac, ad, ai, ag, af, ae, aj, ak, am, ao]; rfl
                    refine regv_skip (s1 := ?_) ?_ ?_ ?_
                    rotate_left
                    · simp [a, b, e, d, f, g, i, j, m, k, q, o, u, v, w, ab, aa, z, y, ac, ad, ai, ag, af, ae, aj, ak, am, ao]; done
                    · simp [a, b, e, d, f, g, i, j, m, k, q, o, u, v, w, ab, aa, z, y, ac, ad, ai, ag, af, ae, aj, ak, am, ao]; rfl
                    refine regv_skip (s1 := ?_) ?_ ?_ ?_
                    rotate_left
                    · simp [a, b, e, d, f, g, i, j, m, k, q, o, u, v, w, ab, aa, z, y, ac, ad, ai, ag, af, ae, aj, ak, am, ao]; done
                    · simp [a, b, e, d, f, g, i, j, m, k, q, o, u, v, w, ab, aa, z, y, ac, ad, ai, ag, af, ae, aj, ak, am, ao]; rfl
                    refine regv_skip (s1 := ?_) ?_ ?_ ?_
                    rotate_left
                    · simp [a, b, e, d, f, g, i, j, m, k, q, o, u, v, w, ab, aa, z, y, ac, ad, ai, ag, af, ae, aj, ak, am, ao]; done
                    · simp [a, b, e, d, f, g, i, j, m, k, q, o, u, v, w, ab, aa, z, y, ac, ad, ai, ag, af, ae, aj, ak, am, ao]; rfl
                    refine regv_skip (s1 := ?_) ?_ ?_ ?_
                    rotate_left
                    · simp [a, b, e, d, f, g, i, j, m, k, q, o, u, v, w, ab, aa, z, y, ac, ad, ai, ag, af, ae, aj, ak, am, ao]; done
                    · simp [a, b, e, d, f, g, i, j, m, k, q, o, u, v, w, ab, aa, z, y, ac, ad, ai, ag, af, ae, aj, ak, am, ao]; rfl
                    iterate 2
                      refine regv_pure (s1 := ?_) rfl rfl ?_ ?_ ?_
                      rotate_left
                      · simp [a, b, e, d, f, g, i, j, m, k, q, o, u, v, w, ab, aa, z, y, ac, ad, ai, ag, af, ae, aj, ak, am, ao]; rfl
                      · first | (simp [a, b, e, d, f, g, i, j, m, k, q, o, u, v, w, ab, aa, z, y, ac, ad, ai, ag, af, ae, aj, ak, am, ao] <;> omega) | (have hq := ao; simp at hq; simp [a, b, e, d, f, g, i, j, m, k, q, o, u, v, w, ab, aa, z, y, ac, ad, ai, ag, af, ae, aj, ak, am, ao, hq]; done) | skip
                    refine regv_nil ?_
                    cases h
                    refine Wp.ret (endQ_ret0 rfl ?_)
                    repeat' first | exact All2.nil | refine All2.cons ?_ ?_ | refine AvLe.tups ?_ | refine AvLe.aggs ?_
                    all_goals first
                      | (exact AvLe.refl _ rfl)
                      | (exact AvLe.nil _)
                      | (exact AvLe.znil _)
                      | (exact AvLe.ghost _ rfl)
                      | (exact AvLe.zghost _ rfl)
                      | (exact AvLe.sl' rfl (by simp [a, b, e, d, f, g, i, j, m, k, q, o, u, v, w, ab, aa, z, y, ac, ad, ai, ag, af, ae, aj, ak, am, ao]; done) (by simp [a, b, e, d, f, g, i, j, m, k, q, o, u, v, w, ab, aa, z, y, ac, ad, ai, ag, af, ae, aj, ak, am, ao]; done))
                      | (exact AvLe.frz' rfl rfl rfl (by simp [a, b, e, d, f, g, i, j, m, k, q, o, u, v, w, ab, aa, z, y, ac, ad, ai, ag, af, ae, aj, ak, am, ao]; done) (by simp [a, b, e, d, f, g, i, j, m, k, q, o, u, v, w, ab, aa, z, y, ac, ad, ai, ag, af, ae, aj, ak, am, ao]; done) (by simp [a, b, e, d, f, g, i, j, m, k, q, o, u, v, w, ab, aa, z, y, ac, ad, ai, ag, af, ae, aj, ak, am, ao]; done))
                      | (exact AvLe.list' (by simp [a, b, e, d, f, g, i, j, m, k, q, o, u, v, w, ab, aa, z, y, ac, ad, ai, ag, af, ae, aj, ak, am, ao]; done) (by simp [a, b, e, d, f, g, i, j, m, k, q, o, u, v, w, ab, aa, z, y, ac, ad, ai, ag, af, ae, aj, ak, am, ao]; done))
                      | (exact AvLe.eq (by simp [a, b, e, d, f, g, i, j, m, k, q, o, u, v, w, ab, aa, z, y, ac, ad, ai, ag, af, ae, aj, ak, am, ao]; done) rfl)
                  · rw [ao, if_pos rfl] at h
                    refine regv_pure (s1 := ?_) rfl ?_ ?_ ?_ ?_
                    rotate_left
                    · simp [a, b, e, d, f, g, i, j, m, k, q, o, u, v, w, ab, aa, z, y, ac, ad, ai, ag, af, ae, aj, ak, am, ao]; done
                    · simp [a, b, e, d, f, g, i, j, m, k, q, o, u, v, w, ab, aa, z, y, ac, ad, ai, ag, af, ae, aj, ak, am, ao]; rfl
                    · first | (simp [a, b, e, d, f, g, i, j, m, k, q, o, u, v, w, ab, aa, z, y, ac, ad, ai, ag, af, ae, aj, ak, am, ao] <;> omega) | (have hq := ao; simp at hq; simp [a, b, e, d, f, g, i, j, m, k, q, o, u, v, w, ab, aa, z, y, ac, ad, ai, ag, af, ae, aj, ak, am, ao, hq]; done) | skip
                    refine regv_pure (s1 := ?_) rfl ?_ ?_ ?_ ?_
                    rotate_left
                    · simp [a, b, e, d, f, g, i, j, m, k, q, o, u, v, w, ab, aa, z, y, ac, ad, ai, ag, af, ae, aj, ak, am, ao]; done
                    · simp [a, b, e, d, f, g, i, j, m, k, q, o, u, v, w, ab, aa, z, y, ac, ad, ai, ag, af, ae, aj, ak, am, ao]; rfl
                    · first | (simp [a, b, e, d, f, g, i, j, m, k, q, o, u, v, w, ab, aa, z, y, ac, ad, ai, ag, af, ae, aj, ak, am, ao] <;> omega) | (have hq := ao; simp at hq; simp [a, b, e, d, f, g, i, j, m, k, q, o, u, v, w, ab, aa, z, y, ac, ad, ai, ag, af, ae, aj, ak, am, ao, hq]; done) | skip
                    obtain ⟨ce, bj, h⟩ := obind h
                    obtain ⟨av, au, aq⟩ := atI_some bj
                    try simp [a, b, e, d, f, g, i, j, m, k, q, o, u, v, w, ab, aa, z, y, ac, ad, ai, ag, af, ae, aj, ak, am, ao] at au
                    try simp only [Int.toNat_natCast, Int.reduceToNat, Nat.zero_add, Nat.add_zero] at aq
                    have ap := getElem_of aq
                    refine regv_pure (s1 := ?_) rfl ?_ ?_ ?_ ?_
                    rotate_left
                    · simp [a, b, e, d, f, g, i, j, m, k, q, o, u, v, w, ab, aa, z, y, ac, ad, ai, ag, af, ae, aj, ak, am, ao, av, au, aq, ap]; done
                    · simp [a, b, e, d, f, g, i, j, m, k, q, o, u, v, w, ab, aa, z, y, ac, ad, ai, ag, af, ae, aj, ak, am, ao, av, au, aq, ap]; rfl
                    · first | (simp [a, b, e, d, f, g, i, j, m, k, q, o, u, v, w, ab, aa, z, y, ac, ad, ai, ag, af, ae, aj, ak, am, ao, av, au, aq, ap] <;> omega) | (have hq := ap; simp at hq; simp [a, b, e, d, f, g, i, j, m, k, q, o, u, v, w, ab, aa, z, y, ac, ad, ai, ag, af, ae, aj, ak, am, ao, av, au, aq, ap, hq]; done) | skip
                    refine regv_pure (s1 := ?_) rfl ?_ ?_ ?_ ?_
                    rotate_left
                    · simp [a, b, e, d, f, g, i, j, m, k, q, o, u, v, w, ab, aa, z, y, ac, ad, ai, ag, af, ae, aj, ak, am, ao, av, au, aq, ap]; done
                    · simp [a, b, e, d, f, g, i, j, m, k, q, o, u, v, w, ab, aa, z, y, ac, ad, ai, ag, af, ae, aj, ak, am, ao, av, au, aq, ap]; rfl
                    · first | (simp [a, b, e, d, f, g, i, j, m, k, q, o, u, v, w, ab, aa, z, y, ac, ad, ai, ag, af, ae, aj, ak, am, ao, av, au, aq, ap] <;> omega) | (have hq := ap; simp at hq; simp [a, b, e, d, f, g, i, j, m, k, q, o, u, v, w, ab, aa, z, y, ac, ad, ai, ag, af, ae, aj, ak, am, ao, av, au, aq, ap, hq]; done) | skip
                    refine regv_pure (s1 := ?_) rfl ?_ ?_ ?_ ?_
                    rotate_left
                    · simp [a, b, e, d, f, g, i, j, m, k, q, o, u, v, w, ab, aa, z, y, ac, ad, ai, ag, af, ae, aj, ak, am, ao, av, au, aq, ap]; done
                    · simp [a, b, e, d, f, g, i, j, m, k, q, o, u, v, w, ab, aa, z, y, ac, ad, ai, ag, af, ae, aj, ak, am, ao, av, au, aq, ap]; rfl
                    · first | (simp [a, b, e, d, f, g, i, j, m, k, q, o, u, v, w, ab, aa, z, y, ac, ad, ai, ag, af, ae, aj, ak, am, ao, av, au, aq, ap] <;> omega) | (have hq := ap; simp at hq; simp [a, b, e, d, f, g, i, j, m, k, q, o, u, v, w, ab, aa, z, y, ac, ad, ai, ag, af, ae, aj, ak, am, ao, av, au, aq, ap, hq]; done) | skip
                    iterate 2
                      refine regv_pure (s1 := ?_) rfl rfl ?_ ?_ ?_
                      rotate_left
                      · simp [a, b, e, d, f, g, i, j, m, k, q, o, u, v, w, ab, aa, z, y, ac, ad, ai, ag, af, ae, aj, ak, am, ao, av, au, aq, ap]; rfl
                      · first | (simp [a, b, e, d, f, g, i, j, m, k, q, o, u, v, w, ab, aa, z, y, ac, ad, ai, ag, af, ae, aj, ak, am, ao, av, au, aq, ap] <;> omega) | (have hq := ap; simp at hq; simp [a, b, e, d, f, g, i, j, m, k, q, o, u, v, w, ab, aa, z, y, ac, ad, ai, ag, af, ae, aj, ak, am, ao, av, au, aq, ap, hq]; done) | skip
                    refine regv_nil ?_
                    cases h
                    refine Wp.ret (endQ_ret0 rfl ?_)
                    repeat' first | exact All2.nil | refine All2.cons ?_ ?_ | refine AvLe.tups ?_ | refine AvLe.aggs ?_
                    all_goals first
                      | (exact AvLe.refl _ rfl)
                      | (exact AvLe.nil _)
                      | (exact AvLe.znil _)
                      | (exact AvLe.ghost _ rfl)
                      | (exact AvLe.zghost _ rfl)
                      | (exact AvLe.sl' rfl (by simp [a, b, e, d, f, g, i, j, m, k, q, o, u, v, w, ab, aa, z, y, ac, ad, ai, ag, af, ae, aj, ak, am, ao, av, au, aq, ap]; done) (by simp [a, b, e, d, f, g, i, j, m, k, q, o, u, v, w, ab, aa, z, y, ac, ad, ai, ag, af, ae, aj, ak, am, ao, av, au, aq, ap]; done))
                      | (exact AvLe.frz' rfl rfl rfl (by simp [a, b, e, d, f, g, i, j, m, k, q, o, u, v, w, ab, aa, z, y, ac, ad, ai, ag, af, ae, aj, ak, am, ao, av, au, aq, ap]; done) (by simp [a, b, e, d, f, g, i, j, m, k, q, o, u, v, w, ab, aa, z, y, ac, ad, ai, ag, af, ae, aj, ak, am, ao, av, au, aq, ap]; done) (by simp [a, b, e, d, f, g, i, j, m, k, q, o, u, v, w, ab, aa, z, y, ac, ad, ai, ag, af, ae, aj, ak, am, ao, av, au, aq, ap]; done))
                      | (exact AvLe.list' (by simp [a, b, e, d, f, g, i, j, m, k, q, o, u, v, w, ab, aa, z, y, ac, ad, ai, ag, af, ae, aj, ak, am, ao, av, au, aq, ap]; done) (by simp [a, b, e, d, f, g, i, j, m, k, q, o, u, v, w, ab, aa, z, y, ac, ad, ai, ag, af, ae, aj, ak, am, ao, av, au, aq, ap]; done))
                      | (exact AvLe.eq (by simp [a, b, e, d, f, g, i, j, m, k, q, o, u, v, w, ab, aa, z, y, ac, ad, ai, ag, af, ae, aj, ak, am, ao, av, au, aq, ap]; done) rfl)

def law16_RungevalLastCoilWins_S1 (n : Nat) (a1 : ApiState) (bg : ApiState) (bi : List (ApiAddr × Bool)) : St :=
  { ch := [(4, .hptr 0 0 0), (7, .hptr 1 0 0), (9, .mp 2)], hp := [.var [aL cB a1.Q, aL cB a1.M, aL cB a1.E], .var [aL cB bg.Q, aL cB bg.M, aL cB bg.E], .map (mAV (pS cApiAddr) cB bi)], base := 0, n := 145, cond := True }

def law16_RungevalLastCoilWins_S2 (n : Nat) (a1 : ApiState) (bg : ApiState) : St :=
  { ch := [(4, .hptr 0 0 0), (7, .hptr 1 0 0)], hp := [.var [aL cB a1.Q, aL cB a1.M, aL cB a1.E], .var [aL cB bg.Q, aL cB bg.M, aL cB bg.E]], base := 0, n := 145, cond := True }

def law16_RungevalLastCoilWins_S3 (n : Nat) (a1 : ApiState) (bg : ApiState) (bi : List (ApiAddr × Bool)) (bj : List ((List Bool) × (List Bool))) (bk : Int) : St :=
  { ch := [(4, .hptr 0 0 0), (7, .hptr 1 0 0), (9, .mp 2), (92, aL (cA2 (cL cB)) bj), (93, .int .i64 (bj.length : Int)), (94, .int .i64 bk)], hp := [.var [aL cB a1.Q, aL cB a1.M, aL cB a1.E], .var [aL cB bg.Q, aL cB bg.M, aL cB bg.E], .map (mAV (pS cApiAddr) cB bi)], base := 0, n := 145, cond := True }

def law16_RungevalLastCoilWins_S4 (n : Nat) (a1 : ApiState) (bg : ApiState) (bi : List (ApiAddr × Bool)) (bj : List ((List Bool) × (List Bool))) (bk : Int) (bm : (List Bool) × (List Bool)) (bu : Int) : St :=
  { ch := [(4, .hptr 0 0 0), (7, .hptr 1 0 0), (9, .mp 2), (12, .int .i64 bk), (13, .hptr 3 0 0), (92, aL (cA2 (cL cB)) bj), (93, .int .i64 (bj.length : Int)), (94, .int .i64 bk), (108, .int .i64 (bm.1.length : Int)), (109, .int .i64 bu)], hp := [.var [aL cB a1.Q, aL cB a1.M, aL cB a1.E], .var [aL cB bg.Q, aL cB bg.M, aL cB bg.E], .map (mAV (pS cApiAddr) cB bi), .var [aL cB bm.1, aL cB bm.2]], base := 0, n := 145, cond := True }

def law16_RungevalLastCoilWins_S5 (n : Nat) (_append0 : ApiRung) (a1 : ApiState) (a2 : Bool) (bg : ApiState) (bo : List (ApiAddr × Bool)) (bp : Int) : St :=
  { ch := [(2, .bool a2), (4, .hptr 0 0 0), (7, .hptr 1 0 0), (9, .mp 2), (45, aL cApiCoil _append0.Coils), (46, .int .i64 (_append0.Coils.length : Int)), (47, .int .i64 bp)], hp := [.var [aL cB a1.Q, aL cB a1.M, aL cB a1.E], .var [aL cB bg.Q, aL cB bg.M, aL cB bg.E], .map (mAV (pS cApiAddr) cB bo)], base := 0, n := 145, cond := True }

theorem con_law16_RungevalLastCoilWins {n : Nat} {_append0 : ApiRung} {a1 : ApiState} {a2 : Bool} {r : Bool} (h : law16_RungevalLastCoilWins n _append0 a1 a2 = some r) : Con Try.prog 7 [.agg (cApiRung _append0), .agg (cApiState a1), .bool a2] (.bool r) [] := by
  refine con_of (T := TT0) tt_ok Try.func7 (c := _) (by unfold Try.f7; rfl) Try.ntmps7 (rs := [.tmp 6]) (by rw [Try.results7]) (by unfold Try.f7; rfl) (by simp) ?_
  simp only [argsCh]
  dsimp only [law16_RungevalLastCoilWins] at h
  refine Wp.reg_seq (own := fun _ => false) tt_ok ?_
  iterate 3
    refine regv_pure (s1 := ?_) rfl rfl ?_ ?_ ?_
    rotate_left
    · simp []; rfl
    · first | (simp [] <;> omega) | skip
  refine regv_nil ?_
  refine Wp.seq ?_
  refine Wp.reg_seq (own := fun _ => false) tt_ok ?_
  iterate 1
    refine regv_pure (s1 := ?_) rfl rfl ?_ ?_ ?_
    rotate_left
    · simp []; rfl
    · first | (simp [] <;> omega) | skip
  obtain ⟨cq, bz, h⟩ := obind h
  refine regv_call2 (s' := ?_) (p := ?_) (con_law12_TooLarge bz) rfl rfl rfl rfl ?_ ?_ ?_ ?_ ?_ ?_
  rotate_left 2
  · simp []; rfl
  · first | exact .inl rfl | (refine .inl ?_; simp []; done) | (refine .inr ?_; dsimp only; repeat' first | exact All2.nil | refine All2.cons ?_ ?_) <;> first | exact AvLe.refl _ rfl | exact AvLe.nil _ | exact AvLe.znil _ | exact AvLe.list' (by simp []; done) (by simp []; done) | exact AvLe.eq (by simp []; done) rfl
  · first | (simp [] <;> omega) | skip
  · simp
  · simp []; rfl
  iterate 2
    refine regv_pure (s1 := ?_) rfl rfl ?_ ?_ ?_
    rotate_left
    · simp []; rfl
    · first | (simp [] <;> omega) | skip
  refine (Decidable.em (cq > 0)).symm.elim (fun d => ?_) (fun d => ?_)
  · rw [if_neg (by simpa using d)] at h
    refine regv_pure (s1 := ?_) rfl ?_ ?_ ?_ ?_
    rotate_left
    · simp [d]; done
    · simp [d]; rfl
    · first | (simp [d] <;> omega) | (have hq := d; simp at hq; simp [d, hq]; done) | skip
    refine regv_pure (s1 := ?_) rfl ?_ ?_ ?_ ?_
    rotate_left
    · simp [d]; done
    · simp [d]; rfl
    · first | (simp [d] <;> omega) | (have hq := d; simp at hq; simp [d, hq]; done) | skip
    refine regv_pure (s1 := ?_) rfl ?_ ?_ ?_ ?_
    rotate_left
    · simp [d]; done
    · simp [d]; rfl
    · first | (simp [d] <;> omega) | (have hq := d; simp at hq; simp [d, hq]; done) | skip
    refine regv_pure (s1 := ?_) rfl ?_ ?_ ?_ ?_
    rotate_left
    · simp [d]; done
    · simp [d]; rfl
    · first | (simp [d] <;> omega) | (have hq := d; simp at hq; simp [d, hq]; done) | skip
    iterate 2
      refine regv_pure (s1 := ?_) rfl rfl ?_ ?_ ?_
      rotate_left
      · simp [d]; rfl
      · first | (simp [d] <;> omega) | (have hq := d; simp at hq; simp [d, hq]; done) | skip
    refine (Decidable.em ((_append0.Coils.length : Int) > 100)).symm.elim (fun e => ?_) (fun e => ?_)
    · rw [if_neg (by simpa using e)] at h
      refine regv_pure (s1 := ?_) rfl ?_ ?_ ?_ ?_
      rotate_left
      · simp [d, e]; done
      · simp [d, e]; rfl
      · first | (simp [d, e] <;> omega) | (have hq := e; simp at hq; simp [d, e, hq]; done) | skip
      refine regv_pure (s1 := ?_) rfl ?_ ?_ ?_ ?_
      rotate_left
      · simp [d, e]; done
      · simp [d, e]; rfl
      · first | (simp [d, e] <;> omega) | (have hq := e; simp at hq; simp [d, e, hq]; done) | skip
      obtain ⟨db, bv, h⟩ := obind h
      have b := congrArg (List.map cApiState) (Option.some.inj bv)
      have a := (congrArg List.length (Option.some.inj bv)).symm
      try simp [d, e] at b
      try simp [d, e] at a
      clear bv
      try simp only [b]
      obtain ⟨cu, ca, h⟩ := obind h
      refine regv_call2 (s' := ?_) (p := ?_) (con_law03_TooLarge ca) rfl rfl rfl rfl ?_ ?_ ?_ ?_ ?_ ?_
      rotate_left 2
      · simp [d, e, b, a]; rfl
      · first | exact .inl rfl | (refine .inl ?_; simp [d, e, b, a]; done) | (refine .inr ?_; dsimp only; repeat' first | exact All2.nil | refine All2.cons ?_ ?_) <;> first | exact AvLe.refl _ rfl | exact AvLe.nil _ | exact AvLe.znil _ | exact AvLe.list' (by simp [d, e, b, a]; done) (by simp [d, e, b, a]; done) | exact AvLe.eq (by simp [d, e, b, a]; done) rfl
      · first | (simp [d, e, b, a] <;> omega) | (have hq := a; simp at hq; simp [d, e, b, a, hq]; done) | skip
      · simp
      · simp [d, e, b, a]; rfl
      refine regv_pure (s1 := ?_) rfl ?_ ?_ ?_ ?_
      rotate_left
      · simp [d, e, b, a]; done
      · simp [d, e, b, a]; rfl
      · first | (simp [d, e, b, a] <;> omega) | (have hq := a; simp at hq; simp [d, e, b, a, hq]; done) | skip
      iterate 1
        refine regv_pure (s1 := ?_) rfl rfl ?_ ?_ ?_
        rotate_left
        · simp [d, e, b, a]; rfl
        · first | (simp [d, e, b, a] <;> omega) | (have hq := a; simp at hq; simp [d, e, b, a, hq]; done) | skip
      refine regv_nil ?_
      refine (Decidable.em (cu > 0)).symm.elim (fun f => ?_) (fun f => ?_)
      · rw [if_neg (by simpa using f)] at h
        refine Wp.cond false (by first | (simp [d, e, b, a, f] <;> omega) | (have hq := f; simp at hq; simp [d, e, b, a, f, hq]; done)) (fun h0 => absurd h0 (by decide)) (fun _ => ?_)
        refine Wp.skip ?_
        show Wp _ _ _ _
        refine Wp.reg_seq (own := fun _ => false) tt_ok ?_
        iterate 3
          refine regv_pure (s1 := ?_) rfl rfl ?_ ?_ ?_
          rotate_left
          · simp [d, e, b, a, f]; rfl
          · first | (simp [d, e, b, a, f] <;> omega) | (have hq := f; simp at hq; simp [d, e, b, a, f, hq]; done) | skip
        obtain ⟨⟨bg, cv⟩, cb, h⟩ := obind h
        dsimp only at h
        refine regv_call2 (s' := ?_) (p := ?_) (con_rungeval_Coils cb) rfl rfl rfl rfl ?_ ?_ ?_ ?_ ?_ ?_
        rotate_left 2
        · simp [d, e, b, a, f]; rfl
        · first | exact .inl rfl | (refine .inl ?_; simp [d, e, b, a, f]; done) | (refine .inr ?_; dsimp only; repeat' first | exact All2.nil | refine All2.cons ?_ ?_) <;> first | exact AvLe.refl _ rfl | exact AvLe.nil _ | exact AvLe.znil _ | exact AvLe.list' (by simp [d, e, b, a, f]; done) (by simp [d, e, b, a, f]; done) | exact AvLe.eq (by simp [d, e, b, a, f]; done) rfl
        · first | (simp [d, e, b, a, f] <;> omega) | (have hq := f; simp at hq; simp [d, e, b, a, f, hq]; done) | skip
        · simp
        · simp [d, e, b, a, f]; rfl
        iterate 6
          refine regv_pure (s1 := ?_) rfl rfl ?_ ?_ ?_
          rotate_left
          · simp [d, e, b, a, f]; rfl
          · first | (simp [d, e, b, a, f] <;> omega) | (have hq := f; simp at hq; simp [d, e, b, a, f, hq]; done) | skip
        refine regv_nil ?_
        refine Wp.seq ?_
        refine Wp.reg_seq (own := fun _ => false) tt_ok ?_
        iterate 2
          refine regv_pure (s1 := ?_) rfl rfl ?_ ?_ ?_
          rotate_left
          · simp [d, e, b, a, f]; rfl
          · first | (simp [d, e, b, a, f] <;> omega) | (have hq := f; simp at hq; simp [d, e, b, a, f, hq]; done) | skip
        refine regv_nil ?_
        cases g : (cv != 0)
        · rw [g, if_neg (by simp)] at h
          refine Wp.cond false (by first | (simp [d, e, b, a, f, g] <;> omega) | (have hq := g; simp at hq; simp [d, e, b, a, f, g, hq]; done)) (fun h0 => absurd h0 (by decide)) (fun _ => ?_)
          refine Wp.skip ?_
          show Wp _ _ _ _
          refine Wp.reg_seq (own := fun _ => false) tt_ok ?_
          iterate 2
            refine regv_pure (s1 := ?_) rfl rfl ?_ ?_ ?_
            rotate_left
            · simp [d, e, b, a, f, g]; rfl
            · first | (simp [d, e, b, a, f, g] <;> omega) | (have hq := g; simp at hq; simp [d, e, b, a, f, g, hq]; done) | skip
          refine regv_nil ?_
          refine Wp.join (α := (List (ApiAddr × Bool))) (fun x => law16_RungevalLastCoilWins_S1 n a1 bg x) (fun x => law16_RungevalLastCoilWins_J1 n a1 bg x = some r) ?_ ?_
          · clear h
            rintro bi h
            simp only [law16_RungevalLastCoilWins_S1]
            dsimp only [law16_RungevalLastCoilWins_J1] at h
            refine Wp.join (α := Unit) (fun x => law16_RungevalLastCoilWins_S2 n a1 bg ) (fun x => law16_RungevalLastCoilWins_J2 n a1 bg  = some r) ?_ ?_
            · clear h
              rintro _ h
              simp only [law16_RungevalLastCoilWins_S2]
              dsimp only [law16_RungevalLastCoilWins_J2] at h
              refine Wp.reg_seq (own := fun _ => false) tt_ok ?_
              obtain ⟨cw, cc, h⟩ := obind h
              refine regv_call2 (s' := ?_) (p := ?_) (con_law16_alive cc) rfl rfl rfl rfl ?_ ?_ ?_ ?_ ?_ ?_
              rotate_left 2
              · simp [d, e, b, a, f, g]; rfl
              · first | exact .inl rfl | (refine .inl ?_; simp [d, e, b, a, f, g]; done) | (refine .inr ?_; dsimp only; repeat' first | exact All2.nil | refine All2.cons ?_ ?_) <;> first | exact AvLe.refl _ rfl | exact AvLe.nil _ | exact AvLe.znil _ | exact AvLe.list' (by simp [d, e, b, a, f, g]; done) (by simp [d, e, b, a, f, g]; done) | exact AvLe.eq (by simp [d, e, b, a, f, g]; done) rfl
              · first | (simp [d, e, b, a, f, g] <;> omega) | (have hq := g; simp at hq; simp [d, e, b, a, f, g, hq]; done) | skip
              · simp
              · simp [d, e, b, a, f, g]; rfl
              iterate 1
                refine regv_pure (s1 := ?_) rfl rfl ?_ ?_ ?_
                rotate_left
                · simp [d, e, b, a, f, g]; rfl
                · first | (simp [d, e, b, a, f, g] <;> omega) | (have hq := g; simp at hq; simp [d, e, b, a, f, g, hq]; done) | skip
              refine (Bool.eq_false_or_eq_true cw).symm.elim (fun am => ?_) (fun am => ?_)
              · rw [if_neg (by rw [am]; simp)] at h
                refine regv_skip (s1 := ?_) ?_ ?_ ?_
                rotate_left
                · simp [d, e, b, a, f, g, am]; done
                · simp [d, e, b, a, f, g, am]; rfl
                refine regv_skip (s1 := ?_) ?_ ?_ ?_
                rotate_left
                · simp [d, e, b, a, f, g, am]; done
                · simp [d, e, b, a, f, g, am]; rfl
                refine regv_skip (s1 := ?_) ?_ ?_ ?_
                rotate_left
                · simp [d, e, b, a, f, g, am]; done
                · simp [d, e, b, a, f, g, am]; rfl
                refine regv_skip (s1 := ?_) ?_ ?_ ?_
                rotate_left
                · simp [d, e, b, a, f, g, am]; done
                · simp [d, e, b, a, f, g, am]; rfl
                refine regv_skip (s1 := ?_) ?_ ?_ ?_
                rotate_left
                · simp [d, e, b, a, f, g, am]; done
                · simp [d, e, b, a, f, g, am]; rfl
                iterate 2
                  refine regv_pure (s1 := ?_) rfl rfl ?_ ?_ ?_
                  rotate_left
                  · simp [d, e, b, a, f, g, am]; rfl
                  · first | (simp [d, e, b, a, f, g, am] <;> omega) | (have hq := am; simp at hq; simp [d, e, b, a, f, g, am, hq]; done) | skip
                refine regv_nil ?_
                cases h
                refine Wp.ret (endQ_ret0 rfl ?_)
                repeat' first | exact All2.nil | refine All2.cons ?_ ?_ | refine AvLe.tups ?_ | refine AvLe.aggs ?_
                all_goals first
                  | (exact AvLe.refl _ rfl)
                  | (exact AvLe.nil _)
                  | (exact AvLe.znil _)
                  | (exact AvLe.ghost _ rfl)
                  | (exact AvLe.zghost _ rfl)
                  | (exact AvLe.sl' rfl (by simp [d, e, b, a, f, g, am]; done) (by simp [d, e, b, a, f, g, am]; done))
                  | (exact AvLe.frz' rfl rfl rfl (by simp [d, e, b, a, f, g, am]; done) (by simp [d, e, b, a, f, g, am]; done) (by simp [d, e, b, a, f, g, am]; done))
                  | (exact AvLe.list' (by simp [d, e, b, a, f, g, am]; done) (by simp [d, e, b, a, f, g, am]; done))
                  | (exact AvLe.eq (by simp [d, e, b, a, f, g, am]; done) rfl)
              · rw [if_pos am] at h
                refine regv_pure (s1 := ?_) rfl ?_ ?_ ?_ ?_
                rotate_left
                · simp [d, e, b, a, f, g, am]; done
                · simp [d, e, b, a, f, g, am]; rfl
                · first | (simp [d, e, b, a, f, g, am] <;> omega) | (have hq := am; simp at hq; simp [d, e, b, a, f, g, am, hq]; done) | skip
                refine regv_pure (s1 := ?_) rfl ?_ ?_ ?_ ?_
                rotate_left
                · simp [d, e, b, a, f, g, am]; done
                · simp [d, e, b, a, f, g, am]; rfl
                · first | (simp [d, e, b, a, f, g, am] <;> omega) | (have hq := am; simp at hq; simp [d, e, b, a, f, g, am, hq]; done) | skip
                refine regv_pure (s1 := ?_) rfl ?_ ?_ ?_ ?_
                rotate_left
                · simp [d, e, b, a, f, g, am]; done
                · simp [d, e, b, a, f, g, am]; rfl
                · first | (simp [d, e, b, a, f, g, am] <;> omega) | (have hq := am; simp at hq; simp [d, e, b, a, f, g, am, hq]; done) | skip
                refine regv_pure (s1 := ?_) rfl ?_ ?_ ?_ ?_
                rotate_left
                · simp [d, e, b, a, f, g, am]; done
                · simp [d, e, b, a, f, g, am]; rfl
                · first | (simp [d, e, b, a, f, g, am] <;> omega) | (have hq := am; simp at hq; simp [d, e, b, a, f, g, am, hq]; done) | skip
                obtain ⟨dc, cd, h⟩ := obind h
                refine regv_call2 (s' := ?_) (p := ?_) (con_slices_Equal_bool cd) rfl rfl rfl rfl ?_ ?_ ?_ ?_ ?_ ?_
                rotate_left 2
                · simp [d, e, b, a, f, g, am]; rfl
                · first | exact .inl rfl | (refine .inl ?_; simp [d, e, b, a, f, g, am]; done) | (refine .inr ?_; dsimp only; repeat' first | exact All2.nil | refine All2.cons ?_ ?_) <;> first | exact AvLe.refl _ rfl | exact AvLe.nil _ | exact AvLe.znil _ | exact AvLe.list' (by simp [d, e, b, a, f, g, am]; done) (by simp [d, e, b, a, f, g, am]; done) | exact AvLe.eq (by simp [d, e, b, a, f, g, am]; done) rfl
                · first | (simp [d, e, b, a, f, g, am] <;> omega) | (have hq := am; simp at hq; simp [d, e, b, a, f, g, am, hq]; done) | skip
                · simp
                · simp [d, e, b, a, f, g, am]; rfl
                iterate 2
                  refine regv_pure (s1 := ?_) rfl rfl ?_ ?_ ?_
                  rotate_left
                  · simp [d, e, b, a, f, g, am]; rfl
                  · first | (simp [d, e, b, a, f, g, am] <;> omega) | (have hq := am; simp at hq; simp [d, e, b, a, f, g, am, hq]; done) | skip
                refine regv_nil ?_
                cases h
                refine Wp.ret (endQ_ret0 rfl ?_)
                repeat' first | exact All2.nil | refine All2.cons ?_ ?_ | refine AvLe.tups ?_ | refine AvLe.aggs ?_
                all_goals first
                  | (exact AvLe.refl _ rfl)
                  | (exact AvLe.nil _)
                  | (exact AvLe.znil _)
                  | (exact AvLe.ghost _ rfl)
                  | (exact AvLe.zghost _ rfl)
                  | (exact AvLe.sl' rfl (by simp [d, e, b, a, f, g, am]; done) (by simp [d, e, b, a, f, g, am]; done))
                  | (exact AvLe.frz' rfl rfl rfl (by simp [d, e, b, a, f, g, am]; done) (by simp [d, e, b, a, f, g, am]; done) (by simp [d, e, b, a, f, g, am]; done))
                  | (exact AvLe.list' (by simp [d, e, b, a, f, g, am]; done) (by simp [d, e, b, a, f, g, am]; done))
                  | (exact AvLe.eq (by simp [d, e, b, a, f, g, am]; done) rfl)
            · skip
              refine Wp.reg_seq (own := fun _ => false) tt_ok ?_
              iterate 11
                refine regv_pure (s1 := ?_) rfl rfl ?_ ?_ ?_
                rotate_left
                · simp [d, e, b, a, f, g]; rfl
                · first | (simp [d, e, b, a, f, g] <;> omega) | (have hq := g; simp at hq; simp [d, e, b, a, f, g, hq]; done) | skip
              obtain ⟨bj, bw, h⟩ := obind h
              have u := congrArg (List.map (cA2 (cL cB))) (Option.some.inj bw)
              have q := (congrArg List.length (Option.some.inj bw)).symm
              try simp [d, e, b, a, f, g] at u
              try simp [d, e, b, a, f, g] at q
              clear bw
              try simp only [u]
              iterate 2
                refine regv_pure (s1 := ?_) rfl rfl ?_ ?_ ?_
                rotate_left
                · simp [d, e, b, a, f, g, u, q]; rfl
                · first | (simp [d, e, b, a, f, g, u, q] <;> omega) | (have hq := q; simp at hq; simp [d, e, b, a, f, g, u, q, hq]; done) | skip
              refine regv_nil ?_
              refine Wp.block ?_
              refine Wp.loopF (α := Int) (fun x => law16_RungevalLastCoilWins_S3 n a1 bg bi bj x) (fun m x => law16_RungevalLastCoilWins_L3 n a1 bg bi bj m x = some r) (fun _ h => by cases h) ?_ n 0 h ?_
              rotate_left
              · simp only [law16_RungevalLastCoilWins_S3]
                refine Reloc.mk2 [some 0, some 1, some 2] rfl rfl rfl (by decide) ?_ ?_
                · repeat' first | exact objsLe_nil | refine objsLe_cons ?_ ?_
                  all_goals first
                    | exact trivial
                    | (refine ObjLe.var' rfl rfl ?_ rfl
                       repeat' first | exact All2.nil | refine All2.cons ?_ ?_
                       all_goals first | (exact AvLe.refl _ rfl) | (exact AvLe.sl _ _ _ _ rfl) | (exact AvLe.hptr _ _ _ _ rfl) | (exact AvLe.mp _ _ rfl) | (exact AvLe.nil _) | (exact AvLe.znil _) | (exact AvLe.ghost _ rfl) | (exact AvLe.zghost _ rfl) | (exact AvLe.sl' rfl (by simp [d, e, b, a, f, g, u, q]; done) (by first | (simp [d, e, b, a, f, g, u, q] <;> omega) | omega)) | (exact AvLe.frz2 rfl (by simp) rfl (by simp [d, e, b, a, f, g, u, q]; done) (by simp [d, e, b, a, f, g, u, q]; done) (by simp [d, e, b, a, f, g, u, q]; done)) | (exact AvLe.list' (by simp [d, e, b, a, f, g, u, q]; done) (by simp [d, e, b, a, f, g, u, q]; done)) | (exact AvLe.eq (by simp [d, e, b, a, f, g, u, q]; done) rfl))
                    | (exact ObjLe.map' rfl rfl)
                    | (exact ObjLe.map2 rfl rfl (by first | (simp [d, e, b, a, f, g, u, q]; done) | (simp [d, e, b, a, f, g, u, q]; rfl)))
                    | (exact ObjLe.ghost' rfl (by decide))
                    | (exact ObjLe.arr' rfl rfl (by first | (simp [d, e, b, a, f, g, u, q] <;> omega)) (fun _ _ => by first | rfl | (simp [d, e, b, a, f, g, u, q]; done)))
                    | ((simp [d, e, b, a, f, g, u, q]; done))
                · repeat' first | exact chLe_nil | refine chLe_cons ?_ ?_
                  all_goals first
                    | (exact AvLe.refl _ rfl)
                    | (exact AvLe.sl _ _ _ _ rfl)
                    | (exact AvLe.hptr _ _ _ _ rfl)
                    | (exact AvLe.mp _ _ rfl)
                    | (exact AvLe.nil _)
                    | (exact AvLe.znil _)
                    | (exact AvLe.ghost _ rfl)
                    | (exact AvLe.zghost _ rfl)
                    | (exact AvLe.sl' rfl (by simp [d, e, b, a, f, g, u, q]; done) (by first | (simp [d, e, b, a, f, g, u, q] <;> omega) | omega))
                    | (exact AvLe.frz2 rfl (by simp) rfl (by simp [d, e, b, a, f, g, u, q]; done) (by simp [d, e, b, a, f, g, u, q]; done) (by simp [d, e, b, a, f, g, u, q]; done))
                    | (exact AvLe.list' (by simp [d, e, b, a, f, g, u, q]; done) (by simp [d, e, b, a, f, g, u, q]; done))
                    | (exact AvLe.eq (by simp [d, e, b, a, f, g, u, q]; done) rfl)
              rintro rec_n3 bk h
              simp only [law16_RungevalLastCoilWins_S3]
              dsimp only [law16_RungevalLastCoilWins_L3] at h
              refine Wp.reg_seq (own := fun _ => false) tt_ok ?_
              iterate 1
                refine regv_pure (s1 := ?_) rfl rfl ?_ ?_ ?_
                rotate_left
                · simp [d, e, b, a, f, g, u, q]; rfl
                · first | (simp [d, e, b, a, f, g, u, q] <;> omega) | (have hq := q; simp at hq; simp [d, e, b, a, f, g, u, q, hq]; done) | skip
              refine regv_nil ?_
              refine Wp.seq ?_
              refine (Decidable.em (bk < (bj.length : Int))).symm.elim (fun y => ?_) (fun y => ?_)
              · rw [if_neg (by simpa using y)] at h
                refine Wp.cond false (by first | (simp [d, e, b, a, f, g, u, q, y] <;> omega) | (have hq := y; simp at hq; simp [d, e, b, a, f, g, u, q, y, hq]; done)) (fun h0 => absurd h0 (by decide)) (fun _ => ?_)
                refine Wp.exit ?_
                refine next_mk () h ?_
                refine Reloc.mk2 [some 0, some 1] rfl rfl rfl (by decide) ?_ ?_
                · repeat' first | exact objsLe_nil | refine objsLe_cons ?_ ?_
                  all_goals first
                    | exact trivial
                    | (refine ObjLe.var' rfl rfl ?_ rfl
                       repeat' first | exact All2.nil | refine All2.cons ?_ ?_
                       all_goals first | (exact AvLe.refl _ rfl) | (exact AvLe.sl _ _ _ _ rfl) | (exact AvLe.hptr _ _ _ _ rfl) | (exact AvLe.mp _ _ rfl) | (exact AvLe.nil _) | (exact AvLe.znil _) | (exact AvLe.ghost _ rfl) | (exact AvLe.zghost _ rfl) | (exact AvLe.sl' rfl (by simp [d, e, b, a, f, g, u, q, y]; done) (by first | (simp [d, e, b, a, f, g, u, q, y] <;> omega) | omega)) | (exact AvLe.frz2 rfl (by simp) rfl (by simp [d, e, b, a, f, g, u, q, y]; done) (by simp [d, e, b, a, f, g, u, q, y]; done) (by simp [d, e, b, a, f, g, u, q, y]; done)) | (exact AvLe.list' (by simp [d, e, b, a, f, g, u, q, y]; done) (by simp [d, e, b, a, f, g, u, q, y]; done)) | (exact AvLe.eq (by simp [d, e, b, a, f, g, u, q, y]; done) rfl))
                    | (exact ObjLe.map' rfl rfl)
                    | (exact ObjLe.map2 rfl rfl (by first | (simp [d, e, b, a, f, g, u, q, y]; done) | (simp [d, e, b, a, f, g, u, q, y]; rfl)))
                    | (exact ObjLe.ghost' rfl (by decide))
                    | (exact ObjLe.arr' rfl rfl (by first | (simp [d, e, b, a, f, g, u, q, y] <;> omega)) (fun _ _ => by first | rfl | (simp [d, e, b, a, f, g, u, q, y]; done)))
                    | ((simp [d, e, b, a, f, g, u, q, y]; done))
                · repeat' first | exact chLe_nil | refine chLe_cons ?_ ?_
                  all_goals first
                    | (exact AvLe.refl _ rfl)
                    | (exact AvLe.sl _ _ _ _ rfl)
                    | (exact AvLe.hptr _ _ _ _ rfl)
                    | (exact AvLe.mp _ _ rfl)
                    | (exact AvLe.nil _)
                    | (exact AvLe.znil _)
                    | (exact AvLe.ghost _ rfl)
                    | (exact AvLe.zghost _ rfl)
                    | (exact AvLe.sl' rfl (by simp [d, e, b, a, f, g, u, q, y]; done) (by first | (simp [d, e, b, a, f, g, u, q, y] <;> omega) | omega))
                    | (exact AvLe.frz2 rfl (by simp) rfl (by simp [d, e, b, a, f, g, u, q, y]; done) (by simp [d, e, b, a, f, g, u, q, y]; done) (by simp [d, e, b, a, f, g, u, q, y]; done))
                    | (exact AvLe.list' (by simp [d, e, b, a, f, g, u, q, y]; done) (by simp [d, e, b, a, f, g, u, q, y]; done))
                    | (exact AvLe.eq (by simp [d, e, b, a, f, g, u, q, y]; done) rfl)
              · rw [if_pos (decide_eq_true y)] at h
                refine Wp.cond true (by first | (simp [d, e, b, a, f, g, u, q, y] <;> omega) | (have hq := y; simp at hq; simp [d, e, b, a, f, g, u, q, y, hq]; done)) (fun _ => ?_) (fun h0 => absurd h0 (by decide))
                refine Wp.skip ?_
                show Wp _ _ _ _
                refine Wp.seq ?_
                refine Wp.block ?_
                refine Wp.reg_seq (own := fun _ => false) tt_ok ?_
                iterate 1
                  refine regv_pure (s1 := ?_) rfl rfl ?_ ?_ ?_
                  rotate_left
                  · simp [d, e, b, a, f, g, u, q, y]; rfl
                  · first | (simp [d, e, b, a, f, g, u, q, y] <;> omega) | (have hq := y; simp at hq; simp [d, e, b, a, f, g, u, q, y, hq]; done) | skip
                obtain ⟨bm, ce, h⟩ := obind h
                obtain ⟨ac, ab, z⟩ := atI_some ce
                try simp [d, e, b, a, f, g, u, q, y] at ab
                try simp only [Int.toNat_natCast, Int.reduceToNat, Nat.zero_add, Nat.add_zero] at z
                have aa := getElem_of z
                iterate 5
                  refine regv_pure (s1 := ?_) rfl rfl ?_ ?_ ?_
                  rotate_left
                  · simp [d, e, b, a, f, g, u, q, y, ac, ab, z, aa]; rfl
                  · first | (simp [d, e, b, a, f, g, u, q, y, ac, ab, z, aa] <;> omega) | (have hq := aa; simp at hq; simp [d, e, b, a, f, g, u, q, y, ac, ab, z, aa, hq]; done) | skip
                refine regv_nil ?_
                refine Wp.seq ?_
                refine Wp.reg_seq (own := fun _ => false) tt_ok ?_
                iterate 7
                  refine regv_pure (s1 := ?_) rfl rfl ?_ ?_ ?_
                  rotate_left
                  · simp [d, e, b, a, f, g, u, q, y, ac, ab, z, aa]; rfl
                  · first | (simp [d, e, b, a, f, g, u, q, y, ac, ab, z, aa] <;> omega) | (have hq := aa; simp at hq; simp [d, e, b, a, f, g, u, q, y, ac, ab, z, aa, hq]; done) | skip
                refine regv_nil ?_
                cases ae : ((bm.1.length : Int) != (bm.2.length : Int))
                · rw [ae, if_neg (by simp)] at h
                  refine Wp.cond false (by first | (simp [d, e, b, a, f, g, u, q, y, ac, ab, z, aa, ae] <;> omega) | (have hq := ae; simp at hq; simp [d, e, b, a, f, g, u, q, y, ac, ab, z, aa, ae, hq]; done)) (fun h0 => absurd h0 (by decide)) (fun _ => ?_)
                  refine Wp.skip ?_
                  show Wp _ _ _ _
                  refine Wp.reg_seq (own := fun _ => false) tt_ok ?_
                  iterate 4
                    refine regv_pure (s1 := ?_) rfl rfl ?_ ?_ ?_
                    rotate_left
                    · simp [d, e, b, a, f, g, u, q, y, ac, ab, z, aa, ae]; rfl
                    · first | (simp [d, e, b, a, f, g, u, q, y, ac, ab, z, aa, ae] <;> omega) | (have hq := ae; simp at hq; simp [d, e, b, a, f, g, u, q, y, ac, ab, z, aa, ae, hq]; done) | skip
                  refine regv_nil ?_
                  refine Wp.block ?_
                  refine Wp.loopF (α := Int) (fun x => law16_RungevalLastCoilWins_S4 n a1 bg bi bj bk bm x) (fun m x => law16_RungevalLastCoilWins_L4 bi bk (law16_RungevalLastCoilWins_L3 n a1 bg bi bj rec_n3) bm m x = some r) (fun _ h => by cases h) ?_ n 0 h ?_
                  rotate_left
                  · simp only [law16_RungevalLastCoilWins_S4]
                    refine Reloc.mk2 [some 0, some 1, some 2, some 3] rfl rfl rfl (by decide) ?_ ?_
                    · repeat' first | exact objsLe_nil | refine objsLe_cons ?_ ?_
                      all_goals first
                        | exact trivial
                        | (refine ObjLe.var' rfl rfl ?_ rfl
                           repeat' first | exact All2.nil | refine All2.cons ?_ ?_
                           all_goals first | (exact AvLe.refl _ rfl) | (exact AvLe.sl _ _ _ _ rfl) | (exact AvLe.hptr _ _ _ _ rfl) | (exact AvLe.mp _ _ rfl) | (exact AvLe.nil _) | (exact AvLe.znil _) | (exact AvLe.ghost _ rfl) | (exact AvLe.zghost _ rfl) | (exact AvLe.sl' rfl (by simp [d, e, b, a, f, g, u, q, y, ac, ab, z, aa, ae]; done) (by first | (simp [d, e, b, a, f, g, u, q, y, ac, ab, z, aa, ae] <;> omega) | omega)) | (exact AvLe.frz2 rfl (by simp) rfl (by simp [d, e, b, a, f, g, u, q, y, ac, ab, z, aa, ae]; done) (by simp [d, e, b, a, f, g, u, q, y, ac, ab, z, aa, ae]; done) (by simp [d, e, b, a, f, g, u, q, y, ac, ab, z, aa, ae]; done)) | (exact AvLe.list' (by simp [d, e, b, a, f, g, u, q, y, ac, ab, z, aa, ae]; done) (by simp [d, e, b, a, f, g, u, q, y, ac, ab, z, aa, ae]; done)) | (exact AvLe.eq (by simp [d, e, b, a, f, g, u, q, y, ac, ab, z, aa, ae]; done) rfl))
                        | (exact ObjLe.map' rfl rfl)
                        | (exact ObjLe.map2 rfl rfl (by first | (simp [d, e, b, a, f, g, u, q, y, ac, ab, z, aa, ae]; done) | (simp [d, e, b, a, f, g, u, q, y, ac, ab, z, aa, ae]; rfl)))
                        | (exact ObjLe.ghost' rfl (by decide))
                        | (exact ObjLe.arr' rfl rfl (by first | (simp [d, e, b, a, f, g, u, q, y, ac, ab, z, aa, ae] <;> omega)) (fun _ _ => by first | rfl | (simp [d, e, b, a, f, g, u, q, y, ac, ab, z, aa, ae]; done)))
                        | ((simp [d, e, b, a, f, g, u, q, y, ac, ab, z, aa, ae]; done))
                    · repeat' first | exact chLe_nil | refine chLe_cons ?_ ?_
                      all_goals first
                        | (exact AvLe.refl _ rfl)
                        | (exact AvLe.sl _ _ _ _ rfl)
                        | (exact AvLe.hptr _ _ _ _ rfl)
                        | (exact AvLe.mp _ _ rfl)
                        | (exact AvLe.nil _)
                        | (exact AvLe.znil _)
                        | (exact AvLe.ghost _ rfl)
                        | (exact AvLe.zghost _ rfl)
                        | (exact AvLe.sl' rfl (by simp [d, e, b, a, f, g, u, q, y, ac, ab, z, aa, ae]; done) (by first | (simp [d, e, b, a, f, g, u, q, y, ac, ab, z, aa, ae] <;> omega) | omega))
                        | (exact AvLe.frz2 rfl (by simp) rfl (by simp [d, e, b, a, f, g, u, q, y, ac, ab, z, aa, ae]; done) (by simp [d, e, b, a, f, g, u, q, y, ac, ab, z, aa, ae]; done) (by simp [d, e, b, a, f, g, u, q, y, ac, ab, z, aa, ae]; done))
                        | (exact AvLe.list' (by simp [d, e, b, a, f, g, u, q, y, ac, ab, z, aa, ae]; done) (by simp [d, e, b, a, f, g, u, q, y, ac, ab, z, aa, ae]; done))
                        | (exact AvLe.eq (by simp [d, e, b, a, f, g, u, q, y, ac, ab, z, aa, ae]; done) rfl)
                  rintro rec_n4 bu h
                  simp only [law16_RungevalLastCoilWins_S4]
                  dsimp only [law16_RungevalLastCoilWins_L4] at h
                  refine Wp.reg_seq (own := fun _ => false) tt_ok ?_
                  iterate 1
                    refine regv_pure (s1 := ?_) rfl rfl ?_ ?_ ?_
                    rotate_left
                    · simp [d, e, b, a, f, g, u, q, y, ac, ab, z, aa, ae]; rfl
                    · first | (simp [d, e, b, a, f, g, u, q, y, ac, ab, z, aa, ae] <;> omega) | (have hq := ae; simp at hq; simp [d, e, b, a, f, g, u, q, y, ac, ab, z, aa, ae, hq]; done) | skip
                  refine regv_nil ?_
                  refine Wp.seq ?_
                  refine (Decidable.em (bu < (bm.1.length : Int))).symm.elim (fun af => ?_) (fun af => ?_)
                  · rw [if_neg (by simpa using af)] at h
                    refine Wp.cond false (by first | (simp [d, e, b, a, f, g, u, q, y, ac, ab, z, aa, ae, af] <;> omega) | (have hq := af; simp at hq; simp [d, e, b, a, f, g, u, q, y, ac, ab, z, aa, ae, af, hq]; done)) (fun h0 => absurd h0 (by decide)) (fun _ => ?_)
                    refine Wp.exit ?_
                    show Wp _ _ _ _
                    refine Wp.reg (own := fun _ => false) tt_ok ?_
                    iterate 2
                      refine regv_pure (s1 := ?_) rfl rfl ?_ ?_ ?_
                      rotate_left
                      · simp [d, e, b, a, f, g, u, q, y, ac, ab, z, aa, ae, af]; rfl
                      · first | (simp [d, e, b, a, f, g, u, q, y, ac, ab, z, aa, ae, af] <;> omega) | (have hq := af; simp at hq; simp [d, e, b, a, f, g, u, q, y, ac, ab, z, aa, ae, af, hq]; done) | skip
                    refine regv_nil ?_
                    refine next_mk (IntKind.i64.wrap (bk + 1)) h ?_
                    refine Reloc.mk2 [some 0, some 1, some 2] rfl rfl rfl (by decide) ?_ ?_
                    · repeat' first | exact objsLe_nil | refine objsLe_cons ?_ ?_
                      all_goals first
                        | exact trivial
                        | (refine ObjLe.var' rfl rfl ?_ rfl
                           repeat' first | exact All2.nil | refine All2.cons ?_ ?_
                           all_goals first | (exact AvLe.refl _ rfl) | (exact AvLe.sl _ _ _ _ rfl) | (exact AvLe.hptr _ _ _ _ rfl) | (exact AvLe.mp _ _ rfl) | (exact AvLe.nil _) | (exact AvLe.znil _) | (exact AvLe.ghost _ rfl) | (exact AvLe.zghost _ rfl) | (exact AvLe.sl' rfl (by simp [d, e, b, a, f, g, u, q, y, ac, ab, z, aa, ae, af]; done) (by first | (simp [d, e, b, a, f, g, u, q, y, ac, ab, z, aa, ae, af] <;> omega) | omega)) | (exact AvLe.frz2 rfl (by simp) rfl (by simp [d, e, b, a, f, g, u, q, y, ac, ab, z, aa, ae, af]; done) (by simp [d, e, b, a, f, g, u, q, y, ac, ab, z, aa, ae, af]; done) (by simp [d, e, b, a, f, g, u, q, y, ac, ab, z, aa, ae, af]; done)) | (exact AvLe.list' (by simp [d, e, b, a, f, g, u, q, y, ac, ab, z, aa, ae, af]; done) (by simp [d, e, b, a, f, g, u, q, y, ac, ab, z, aa, ae, af]; done)) | (exact AvLe.eq (by simp [d, e, b, a, f, g, u, q, y, ac, ab, z, aa, ae, af]; done) rfl))
                        | (exact ObjLe.map' rfl rfl)
                        | (exact ObjLe.map2 rfl rfl (by first | (simp [d, e, b, a, f, g, u, q, y, ac, ab, z, aa, ae, af]; done) | (simp [d, e, b, a, f, g, u, q, y, ac, ab, z, aa, ae, af]; rfl)))
                        | (exact ObjLe.ghost' rfl (by decide))
                        | (exact ObjLe.arr' rfl rfl (by first | (simp [d, e, b, a, f, g, u, q, y, ac, ab, z, aa, ae, af] <;> omega)) (fun _ _ => by first | rfl | (simp [d, e, b, a, f, g, u, q, y, ac, ab, z, aa, ae, af]; done)))
                        | ((simp [d, e, b, a, f, g, u, q, y, ac, ab, z, aa, ae, af]; done))
                    · repeat' first | exact chLe_nil | refine chLe_cons ?_ ?_
                      all_goals first
                        | (exact AvLe.refl _ rfl)
                        | (exact AvLe.sl _ _ _ _ rfl)
                        | (exact AvLe.hptr _ _ _ _ rfl)
                        | (exact AvLe.mp _ _ rfl)
                        | (exact AvLe.nil _)
                        | (exact AvLe.znil _)
                        | (exact AvLe.ghost _ rfl)
                        | (exact AvLe.zghost _ rfl)
                        | (exact AvLe.sl' rfl (by simp [d, e, b, a, f, g, u, q, y, ac, ab, z, aa, ae, af]; done) (by first | (simp [d, e, b, a, f, g, u, q, y, ac, ab, z, aa, ae, af] <;> omega) | omega))
                        | (exact AvLe.frz2 rfl (by simp) rfl (by simp [d, e, b, a, f, g, u, q, y, ac, ab, z, aa, ae, af]; done) (by simp [d, e, b, a, f, g, u, q, y, ac, ab, z, aa, ae, af]; done) (by simp [d, e, b, a, f, g, u, q, y, ac, ab, z, aa, ae, af]; done))
                        | (exact AvLe.list' (by simp [d, e, b, a, f, g, u, q, y, ac, ab, z, aa, ae, af]; done) (by simp [d, e, b, a, f, g, u, q, y, ac, ab, z, aa, ae, af]; done))
                        | (exact AvLe.eq (by simp [d, e, b, a, f, g, u, q, y, ac, ab, z, aa, ae, af]; done) rfl)
                  · rw [if_pos (decide_eq_true af)] at h
                    refine Wp.cond true (by first | (simp [d, e, b, a, f, g, u, q, y, ac, ab, z, aa, ae, af] <;> omega) | (have hq := af; simp at hq; simp [d, e, b, a, f, g, u, q, y, ac, ab, z, aa, ae, af, hq]; done)) (fun _ => ?_) (fun h0 => absurd h0 (by decide))
                    refine Wp.skip ?_
                    show Wp _ _ _ _
                    refine Wp.seq ?_
                    refine Wp.block ?_
                    refine Wp.reg_seq (own := fun _ => false) tt_ok ?_
                    iterate 2
                      refine regv_pure (s1 := ?_) rfl rfl ?_ ?_ ?_
                      rotate_left
                      · simp [d, e, b, a, f, g, u, q, y, ac, ab, z, aa, ae, af]; rfl
                      · first | (simp [d, e, b, a, f, g, u, q, y, ac, ab, z, aa, ae, af] <;> omega) | (have hq := af; simp at hq; simp [d, e, b, a, f, g, u, q, y, ac, ab, z, aa, ae, af, hq]; done) | skip
                    refine regv_nil ?_
                    refine Wp.reg_seq (own := fun _ => false) tt_ok ?_
                    iterate 11
                      refine regv_pure (s1 := ?_) rfl rfl ?_ ?_ ?_
                      rotate_left
                      · simp [d, e, b, a, f, g, u, q, y, ac, ab, z, aa, ae, af]; rfl
                      · first | (simp [d, e, b, a, f, g, u, q, y, ac, ab, z, aa, ae, af] <;> omega) | (have hq := af; simp at hq; simp [d, e, b, a, f, g, u, q, y, ac, ab, z, aa, ae, af, hq]; done) | skip
                    refine regv_nil ?_
                    refine Wp.seq ?_
                    refine Wp.reg_seq (own := fun _ => false) tt_ok ?_
                    iterate 2
                      refine regv_pure (s1 := ?_) rfl rfl ?_ ?_ ?_
                      rotate_left
                      · simp [d, e, b, a, f, g, u, q, y, ac, ab, z, aa, ae, af]; rfl
                      · first | (simp [d, e, b, a, f, g, u, q, y, ac, ab, z, aa, ae, af] <;> omega) | (have hq := af; simp at hq; simp [d, e, b, a, f, g, u, q, y, ac, ab, z, aa, ae, af, hq]; done) | skip
                    refine regv_nil ?_
                    cases ag : (!((mGet bi (⟨(IntKind.i64.wrap (bk + 1)), bu⟩ : ApiAddr)).isSome))
                    · rw [ag, if_neg (by simp)] at h
                      refine Wp.cond false (by first | (simp [d, e, b, a, f, g, u, q, y, ac, ab, z, aa, ae, af, ag] <;> omega) | (have hq := ag; simp at hq; simp [d, e, b, a, f, g, u, q, y, ac, ab, z, aa, ae, af, ag, hq]; done)) (fun h0 => absurd h0 (by decide)) (fun _ => ?_)
                      refine Wp.skip ?_
                      show Wp _ _ _ _
                      refine Wp.reg_seq (own := fun _ => false) tt_ok ?_
                      iterate 3
                        refine regv_pure (s1 := ?_) rfl rfl ?_ ?_ ?_
                        rotate_left
                        · simp [d, e, b, a, f, g, u, q, y, ac, ab, z, aa, ae, af, ag]; rfl
                        · first | (simp [d, e, b, a, f, g, u, q, y, ac, ab, z, aa, ae, af, ag] <;> omega) | (have hq := ag; simp at hq; simp [d, e, b, a, f, g, u, q, y, ac, ab, z, aa, ae, af, ag, hq]; done) | skip
                      obtain ⟨cy, cf, h⟩ := obind h
                      obtain ⟨bc, ay, av⟩ := atI_some cf
                      try simp [d, e, b, a, f, g, u, q, y, ac, ab, z, aa, ae, af, ag] at ay
                      try simp only [Int.toNat_natCast, Int.reduceToNat, Nat.zero_add, Nat.add_zero] at av
                      have az := getElem_of av
                      iterate 4
                        refine regv_pure (s1 := ?_) rfl rfl ?_ ?_ ?_
                        rotate_left
                        · simp [d, e, b, a, f, g, u, q, y, ac, ab, z, aa, ae, af, ag, bc, ay, av, az]; rfl
                        · first | (simp [d, e, b, a, f, g, u, q, y, ac, ab, z, aa, ae, af, ag, bc, ay, av, az] <;> omega) | (have hq := az; simp at hq; simp [d, e, b, a, f, g, u, q, y, ac, ab, z, aa, ae, af, ag, bc, ay, av, az, hq]; done) | skip
                      refine regv_nil ?_
                      cases be : (!(cy == ((mGet bi (⟨(IntKind.i64.wrap (bk + 1)), bu⟩ : ApiAddr)).getD false)))
                      · rw [be, if_neg (by simp)] at h
                        refine Wp.cond false (by first | (simp [d, e, b, a, f, g, u, q, y, ac, ab, z, aa, ae, af, ag, bc, ay, av, az, be] <;> omega) | (have hq := be; simp at hq; simp [d, e, b, a, f, g, u, q, y, ac, ab, z, aa, ae, af, ag, bc, ay, av, az, be, hq]; done)) (fun h0 => absurd h0 (by decide)) (fun _ => ?_)
                        refine Wp.skip ?_
                        show Wp _ _ _ _
                        refine Wp.reg (own := fun _ => false) tt_ok ?_
                        iterate 2
                          refine regv_pure (s1 := ?_) rfl rfl ?_ ?_ ?_
                          rotate_left
                          · simp [d, e, b, a, f, g, u, q, y, ac, ab, z, aa, ae, af, ag, bc, ay, av, az, be]; rfl
                          · first | (simp [d, e, b, a, f, g, u, q, y, ac, ab, z, aa, ae, af, ag, bc, ay, av, az, be] <;> omega) | (have hq := be; simp at hq; simp [d, e, b, a, f, g, u, q, y, ac, ab, z, aa, ae, af, ag, bc, ay, av, az, be, hq]; done) | skip
                        refine regv_nil ?_
                        refine next_mk (IntKind.i64.wrap (bu + 1)) h ?_
                        refine Reloc.mk2 [some 0, some 1, some 2, some 3] rfl rfl rfl (by decide) ?_ ?_
                        · repeat' first | exact objsLe_nil | refine objsLe_cons ?_ ?_
                          all_goals first
                            | exact trivial
                            | (refine ObjLe.var' rfl rfl ?_ rfl
                               repeat' first | exact All2.nil | refine All2.cons ?_ ?_
                               all_goals first | (exact AvLe.refl _ rfl) | (exact AvLe.sl _ _ _ _ rfl) | (exact AvLe.hptr _ _ _ _ rfl) | (exact AvLe.mp _ _ rfl) | (exact AvLe.nil _) | (exact AvLe.znil _) | (exact AvLe.ghost _ rfl) | (exact AvLe.zghost _ rfl) | (exact AvLe.sl' rfl (by simp [d, e, b, a, f, g, u, q, y, ac, ab, z, aa, ae, af, ag, bc, ay, av, az, be]; done) (by first | (simp [d, e, b, a, f, g, u, q, y, ac, ab, z, aa, ae, af, ag, bc, ay, av, az, be] <;> omega) | omega)) | (exact AvLe.frz2 rfl (by simp) rfl (by simp [d, e, b, a, f, g, u, q, y, ac, ab, z, aa, ae, af, ag, bc, ay, av, az, be]; done) (by simp [d, e, b, a, f, g, u, q, y, ac, ab, z, aa, ae, af, ag, bc, ay, av, az, be]; done) (by simp [d, e, b, a, f, g, u, q, y, ac, ab, z, aa, ae, af, ag, bc, ay, av, az, be]; done)) | (exact AvLe.list' (by simp [d, e, b, a, f, g, u, q, y, ac, ab, z, aa, ae, af, ag, bc, ay, av, az, be]; done) (by simp [d, e, b, a, f, g, u, q, y, ac, ab, z, aa, ae, af, ag, bc, ay, av, az, be]; done)) | (exact AvLe.eq (by simp [d, e, b, a, f, g, u, q, y, ac, ab, z, aa, ae, af, ag, bc, ay, av, az, be]; done) rfl))
                            | (exact ObjLe.map' rfl rfl)
                            | (exact ObjLe.map2 rfl rfl (by first | (simp [d, e, b, a, f, g, u, q, y, ac, ab, z, aa, ae, af, ag, bc, ay, av, az, be]; done) | (simp [d, e, b, a, f, g, u, q, y, ac, ab, z, aa, ae, af, ag, bc, ay, av, az, be]; rfl)))
                            | (exact ObjLe.ghost' rfl (by decide))
                            | (exact ObjLe.arr' rfl rfl (by first | (simp [d, e, b, a, f, g, u, q, y, ac, ab, z, aa, ae, af, ag, bc, ay, av, az, be] <;> omega)) (fun _ _ => by first | rfl | (simp [d, e, b, a, f, g, u, q, y, ac, ab, z, aa, ae, af, ag, bc, ay, av, az, be]; done)))
                            | ((simp [d, e, b, a, f, g, u, q, y, ac, ab, z, aa, ae, af, ag, bc, ay, av, az, be]; done))
                        · repeat' first | exact chLe_nil | refine chLe_cons ?_ ?_
                          all_goals first
                            | (exact AvLe.refl _ rfl)
                            | (exact AvLe.sl _ _ _ _ rfl)
                            | (exact AvLe.hptr _ _ _ _ rfl)
                            | (exact AvLe.mp _ _ rfl)
                            | (exact AvLe.nil _)
                            | (exact AvLe.znil _)
                            | (exact AvLe.ghost _ rfl)
                            | (exact AvLe.zghost _ rfl)
                            | (exact AvLe.sl' rfl (by simp [d, e, b, a, f, g, u, q, y, ac, ab, z, aa, ae, af, ag, bc, ay, av, az, be]; done) (by first | (simp [d, e, b, a, f, g, u, q, y, ac, ab, z, aa, ae, af, ag, bc, ay, av, az, be] <;> omega) | omega))
                            | (exact AvLe.frz2 rfl (by simp) rfl (by simp [d, e, b, a, f, g, u, q, y, ac, ab, z, aa, ae, af, ag, bc, ay, av, az, be]; done) (by simp [d, e, b, a, f, g, u, q, y, ac, ab, z, aa, ae, af, ag, bc, ay, av, az, be]; done) (by simp [d, e, b, a, f, g, u, q, y, ac, ab, z, aa, ae, af, ag, bc, ay, av, az, be]; done))
                            | (exact AvLe.list' (by simp [d, e, b, a, f, g, u, q, y, ac, ab, z, aa, ae, af, ag, bc, ay, av, az, be]; done) (by simp [d, e, b, a, f, g, u, q, y, ac, ab, z, aa, ae, af, ag, bc, ay, av, az, be]; done))
                            | (exact AvLe.eq (by simp [d, e, b, a, f, g, u, q, y, ac, ab, z, aa, ae, af, ag, bc, ay, av, az, be]; done) rfl)
                      · rw [be, if_pos rfl] at h
                        refine Wp.cond true (by first | (simp [d, e, b, a, f, g, u, q, y, ac, ab, z, aa, ae, af, ag, bc, ay, av, az, be] <;> omega) | (have hq := be; simp at hq; simp [d, e, b, a, f, g, u, q, y, ac, ab, z, aa, ae, af, ag, bc, ay, av, az, be, hq]; done)) (fun _ => ?_) (fun h0 => absurd h0 (by decide))
                        refine Wp.reg_seq (own := fun _ => false) tt_ok ?_
                        iterate 1
                          refine regv_pure (s1 := ?_) rfl rfl ?_ ?_ ?_
                          rotate_left
                          · simp [d, e, b, a, f, g, u, q, y, ac, ab, z, aa, ae, af, ag, bc, ay, av, az, be]; rfl
                          · first | (simp [d, e, b, a, f, g, u, q, y, ac, ab, z, aa, ae, af, ag, bc, ay, av, az, be] <;> omega) | (have hq := be; simp at hq; simp [d, e, b, a, f, g, u, q, y, ac, ab, z, aa, ae, af, ag, bc, ay, av, az, be, hq]; done) | skip
                        refine regv_nil ?_
                        cases h
                        refine Wp.ret (endQ_ret0 rfl ?_)
                        repeat' first | exact All2.nil | refine All2.cons ?_ ?_ | refine AvLe.tups ?_ | refine AvLe.aggs ?_
                        all_goals first
                          | (exact AvLe.refl _ rfl)
                          | (exact AvLe.nil _)
                          | (exact AvLe.znil _)
                          | (exact AvLe.ghost _ rfl)
                          | (exact AvLe.zghost _ rfl)
                          | (exact AvLe.sl' rfl (by simp [d, e, b, a, f, g, u, q, y, ac, ab, z, aa, ae, af, ag, bc, ay, av, az, be]; done) (by simp [d, e, b, a, f, g, u, q, y, ac, ab, z, aa, ae, af, ag, bc, ay, av, az, be]; done))
                          | (exact AvLe.frz' rfl rfl rfl (by simp [d, e, b, a, f, g, u, q, y, ac, ab, z, aa, ae, af, ag, bc, ay, av, az, be]; done) (by simp [d, e, b, a, f, g, u, q, y, ac, ab, z, aa, ae, af, ag, bc, ay, av, az, be]; done) (by simp [d, e, b, a, f, g, u, q, y, ac, ab, z, aa, ae, af, ag, bc, ay, av, az, be]; done))
                          | (exact AvLe.list' (by simp [d, e, b, a, f, g, u, q, y, ac, ab, z, aa, ae, af, ag, bc, ay, av, az, be]; done) (by simp [d, e, b, a, f, g, u, q, y, ac, ab, z, aa, ae, af, ag, bc, ay, av, az, be]; done))
                          | (exact AvLe.eq (by simp [d, e, b, a, f, g, u, q, y, ac, ab, z, aa, ae, af, ag, bc, ay, av, az, be]; done) rfl)
                    · rw [ag, if_pos rfl] at h
                      refine Wp.cond true (by first | (simp [d, e, b, a, f, g, u, q, y, ac, ab, z, aa, ae, af, ag] <;> omega) | (have hq := ag; simp at hq; simp [d, e, b, a, f, g, u, q, y, ac, ab, z, aa, ae, af, ag, hq]; done)) (fun _ => ?_) (fun h0 => absurd h0 (by decide))
                      refine Wp.reg (own := fun _ => false) tt_ok ?_
                      iterate 3
                        refine regv_pure (s1 := ?_) rfl rfl ?_ ?_ ?_
                        rotate_left
                        · simp [d, e, b, a, f, g, u, q, y, ac, ab, z, aa, ae, af, ag]; rfl
                        · first | (simp [d, e, b, a, f, g, u, q, y, ac, ab, z, aa, ae, af, ag] <;> omega) | (have hq := ag; simp at hq; simp [d, e, b, a, f, g, u, q, y, ac, ab, z, aa, ae, af, ag, hq]; done) | skip
                      obtain ⟨cz, cg, h⟩ := obind h
                      obtain ⟨au, aq, ao⟩ := atI_some cg
                      try simp [d, e, b, a, f, g, u, q, y, ac, ab, z, aa, ae, af, ag] at aq
                      try simp only [Int.toNat_natCast, Int.reduceToNat, Nat.zero_add, Nat.add_zero] at ao
                      have ap := getElem_of ao
                      iterate 3
                        refine regv_pure (s1 := ?_) rfl rfl ?_ ?_ ?_
                        rotate_left
                        · simp [d, e, b, a, f, g, u, q, y, ac, ab, z, aa, ae, af, ag, au, aq, ao, ap]; rfl
                        · first | (simp [d, e, b, a, f, g, u, q, y, ac, ab, z, aa, ae, af, ag, au, aq, ao, ap] <;> omega) | (have hq := ap; simp at hq; simp [d, e, b, a, f, g, u, q, y, ac, ab, z, aa, ae, af, ag, au, aq, ao, ap, hq]; done) | skip
                      refine regv_nil ?_
                      show Wp _ _ _ _
                      refine Wp.reg_seq (own := fun _ => false) tt_ok ?_
                      iterate 3
                        refine regv_pure (s1 := ?_) rfl rfl ?_ ?_ ?_
                        rotate_left
                        · simp [d, e, b, a, f, g, u, q, y, ac, ab, z, aa, ae, af, ag, au, aq, ao, ap]; rfl
                        · first | (simp [d, e, b, a, f, g, u, q, y, ac, ab, z, aa, ae, af, ag, au, aq, ao, ap] <;> omega) | (have hq := ap; simp at hq; simp [d, e, b, a, f, g, u, q, y, ac, ab, z, aa, ae, af, ag, au, aq, ao, ap, hq]; done) | skip
                      obtain ⟨da, ci, h⟩ := obind h
                      obtain ⟨bd, ba, aw⟩ := atI_some ci
                      try simp [d, e, b, a, f, g, u, q, y, ac, ab, z, aa, ae, af, ag, au, aq, ao, ap] at ba
                      try simp only [Int.toNat_natCast, Int.reduceToNat, Nat.zero_add, Nat.add_zero] at aw
                      have bb := getElem_of aw
                      iterate 4
                        refine regv_pure (s1 := ?_) rfl rfl ?_ ?_ ?_
                        rotate_left
                        · simp [d, e, b, a, f, g, u, q, y, ac, ab, z, aa, ae, af, ag, au, aq, ao, ap, bd, ba, aw, bb]; rfl
                        · first | (simp [d, e, b, a, f, g, u, q, y, ac, ab, z, aa, ae, af, ag, au, aq, ao, ap, bd, ba, aw, bb] <;> omega) | (have hq := bb; simp at hq; simp [d, e, b, a, f, g, u, q, y, ac, ab, z, aa, ae, af, ag, au, aq, ao, ap, bd, ba, aw, bb, hq]; done) | skip
                      refine regv_nil ?_
                      cases bf : (!(da == cz))
                      · rw [bf, if_neg (by simp)] at h
                        refine Wp.cond false (by first | (simp [d, e, b, a, f, g, u, q, y, ac, ab, z, aa, ae, af, ag, au, aq, ao, ap, bd, ba, aw, bb, bf] <;> omega) | (have hq := bf; simp at hq; simp [d, e, b, a, f, g, u, q, y, ac, ab, z, aa, ae, af, ag, au, aq, ao, ap, bd, ba, aw, bb, bf, hq]; done)) (fun h0 => absurd h0 (by decide)) (fun _ => ?_)
                        refine Wp.skip ?_
                        show Wp _ _ _ _
                        refine Wp.reg (own := fun _ => false) tt_ok ?_
                        iterate 2
                          refine regv_pure (s1 := ?_) rfl rfl ?_ ?_ ?_
                          rotate_left
                          · simp [d, e, b, a, f, g, u, q, y, ac, ab, z, aa, ae, af, ag, au, aq, ao, ap, bd, ba, aw, bb, bf]; rfl
                          · first | (simp [d, e, b, a, f, g, u, q, y, ac, ab, z, aa, ae, af, ag, au, aq, ao, ap, bd, ba, aw, bb, bf] <;> omega) | (have hq := bf; simp at hq; simp [d, e, b, a, f, g, u, q, y, ac, ab, z, aa, ae, af, ag, au, aq, ao, ap, bd, ba, aw, bb, bf, hq]; done) | skip
                        refine regv_nil ?_
                        refine next_mk (IntKind.i64.wrap (bu + 1)) h ?_
                        refine Reloc.mk2 [some 0, some 1, some 2, some 3] rfl rfl rfl (by decide) ?_ ?_
                        · repeat' first | exact objsLe_nil | refine objsLe_cons ?_ ?_
                          all_goals first
                            | exact trivial
                            | (refine ObjLe.var' rfl rfl ?_ rfl
                               repeat' first | exact All2.nil | refine All2.cons ?_ ?_
                               all_goals first | (exact AvLe.refl _ rfl) | (exact AvLe.sl _ _ _ _ rfl) | (exact AvLe.hptr _ _ _ _ rfl) | (exact AvLe.mp _ _ rfl) | (exact AvLe.nil _) | (exact AvLe.znil _) | (exact AvLe.ghost _ rfl) | (exact AvLe.zghost _ rfl) | (exact AvLe.sl' rfl (by simp [d, e, b, a, f, g, u, q, y, ac, ab, z, aa, ae, af, ag, au, aq, ao, ap, bd, ba, aw, bb, bf]; done) (by first | (simp [d, e, b, a, f, g, u, q, y, ac, ab, z, aa, ae, af, ag, au, aq, ao, ap, bd, ba, aw, bb, bf] <;> omega) | omega)) | (exact AvLe.frz2 rfl (by simp) rfl (by simp [d, e, b, a, f, g, u, q, y, ac, ab, z, aa, ae, af, ag, au, aq, ao, ap, bd, ba, aw, bb, bf]; done) (by simp [d, e, b, a, f, g, u, q, y, ac, ab, z, aa, ae, af, ag, au, aq, ao, ap, bd, ba, aw, bb, bf]; done) (by simp [d, e, b, a, f, g, u, q, y, ac, ab, z, aa, ae, af, ag, au, aq, ao, ap, bd, ba, aw, bb, bf]; done)) | (exact AvLe.list' (by simp [d, e, b, a, f, g, u, q, y, ac, ab, z, aa, ae, af, ag, au, aq, ao, ap, bd, ba, aw, bb, bf]; done) (by simp [d, e, b, a, f, g, u, q, y, ac, ab, z, aa, ae, af, ag, au, aq, ao, ap, bd, ba, aw, bb, bf]; done)) | (exact AvLe.eq (by simp [d, e, b, a, f, g, u, q, y, ac, ab, z, aa, ae, af, ag, au, aq, ao, ap, bd, ba, aw, bb, bf]; done) rfl))
                            | (exact ObjLe.map' rfl rfl)
                            | (exact ObjLe.map2 rfl rfl (by first | (simp [d, e, b, a, f, g, u, q, y, ac, ab, z, aa, ae, af, ag, au, aq, ao, ap, bd, ba, aw, bb, bf]; done) | (simp [d, e, b, a, f, g, u, q, y, ac, ab, z, aa, ae, af, ag, au, aq, ao, ap, bd, ba, aw, bb, bf]; rfl)))
                            | (exact ObjLe.ghost' rfl (by decide))
                            | (exact ObjLe.arr' rfl rfl (by first | (simp [d, e, b, a, f, g, u, q, y, ac, ab, z, aa, ae, af, ag, au, aq, ao, ap, bd, ba, aw, bb, bf] <;> omega)) (fun _ _ => by first | rfl | (simp [d, e, b, a, f, g, u, q, y, ac, ab, z, aa, ae, af, ag, au, aq, ao, ap, bd, ba, aw, bb, bf]; done)))
                            | ((simp [d, e, b, a, f, g, u, q, y, ac, ab, z, aa, ae, af, ag, au, aq, ao, ap, bd, ba, aw, bb, bf]; done))
                        · repeat' first | exact chLe_nil | refine chLe_cons ?_ ?_
                          all_goals first
                            | (exact AvLe.refl _ rfl)
                            | (exact AvLe.sl _ _ _ _ rfl)
                            | (exact AvLe.hptr _ _ _ _ rfl)
                            | (exact AvLe.mp _ _ rfl)
                            | (exact AvLe.nil _)
                            | (exact AvLe.znil _)
                            | (exact AvLe.ghost _ rfl)
                            | (exact AvLe.zghost _ rfl)
                            | (exact AvLe.sl' rfl (by simp [d, e, b, a, f, g, u, q, y, ac, ab, z, aa, ae, af, ag, au, aq, ao, ap, bd, ba, aw, bb, bf]; done) (by first | (simp [d, e, b, a, f, g, u, q, y, ac, ab, z, aa, ae, af, ag, au, aq, ao, ap, bd, ba, aw, bb, bf] <;> omega) | omega))
                            | (exact AvLe.frz2 rfl (by simp) rfl (by simp [d, e, b, a, f, g, u, q, y, ac, ab, z, aa, ae, af, ag, au, aq, ao, ap, bd, ba, aw, bb, bf]; done) (by simp [d, e, b, a, f, g, u, q, y, ac, ab, z, aa, ae, af, ag, au, aq, ao, ap, bd, ba, aw, bb, bf]; done) (by simp [d, e, b, a, f, g, u, q, y, ac, ab, z, aa, ae, af, ag, au, aq, ao, ap, bd, ba, aw, bb, bf]; done))
                            | (exact AvLe.list' (by simp [d, e, b, a, f, g, u, q, y, ac, ab, z, aa, ae, af, ag, au, aq, ao, ap, bd, ba, aw, bb, bf]; done) (by simp [d, e, b, a, f, g, u, q, y, ac, ab, z, aa, ae, af, ag, au, aq, ao, ap, bd, ba, aw, bb, bf]; done))
                            | (exact AvLe.eq (by simp [d, e, b, a, f, g, u, q, y, ac, ab, z, aa, ae, af, ag, au, aq, ao, ap, bd, ba, aw, bb, bf]; done) rfl)
                      · rw [bf, if_pos rfl] at h
                        refine Wp.cond true (by first | (simp [d, e, b, a, f, g, u, q, y, ac, ab, z, aa, ae, af, ag, au, aq, ao, ap, bd, ba, aw, bb, bf] <;> omega) | (have hq := bf; simp at hq; simp [d, e, b, a, f, g, u, q, y, ac, ab, z, aa, ae, af, ag, au, aq, ao, ap, bd, ba, aw, bb, bf, hq]; done)) (fun _ => ?_) (fun h0 => absurd h0 (by decide))
                        refine Wp.reg_seq (own := fun _ => false) tt_ok ?_
                        iterate 1
                          refine regv_pure (s1 := ?_) rfl rfl ?_ ?_ ?_
                          rotate_left
                          · simp [d, e, b, a, f, g, u, q, y, ac, ab, z, aa, ae, af, ag, au, aq, ao, ap, bd, ba, aw, bb, bf]; rfl
                          · first | (simp [d, e, b, a, f, g, u, q, y, ac, ab, z, aa, ae, af, ag, au, aq, ao, ap, bd, ba, aw, bb, bf] <;> omega) | (have hq := bf; simp at hq; simp [d, e, b, a, f, g, u, q, y, ac, ab, z, aa, ae, af, ag, au, aq, ao, ap, bd, ba, aw, bb, bf, hq]; done) | skip
                        refine regv_nil ?_
                        cases h
                        refine Wp.ret (endQ_ret0 rfl ?_)
                        repeat' first | exact All2.nil | refine All2.cons ?_ ?_ | refine AvLe.tups ?_ | refine AvLe.aggs ?_
                        all_goals first
                          | (exact AvLe.refl _ rfl)
                          | (exact AvLe.nil _)
                          | (exact AvLe.znil _)
                          | (exact AvLe.ghost _ rfl)
                          | (exact AvLe.zghost _ rfl)
                          | (exact AvLe.sl' rfl (by simp [d, e, b, a, f, g, u, q, y, ac, ab, z, aa, ae, af, ag, au, aq, ao, ap, bd, ba, aw, bb, bf]; done) (by simp [d, e, b, a, f, g, u, q, y, ac, ab, z, aa, ae, af, ag, au, aq, ao, ap, bd, ba, aw, bb, bf]; done))
                          | (exact AvLe.frz' rfl rfl rfl (by simp [d, e, b, a, f, g, u, q, y, ac, ab, z, aa, ae, af, ag, au, aq, ao, ap, bd, ba, aw, bb, bf]; done) (by simp [d, e, b, a, f, g, u, q, y, ac, ab, z, aa, ae, af, ag, au, aq, ao, ap, bd, ba, aw, bb, bf]; done) (by simp [d, e, b, a, f, g, u, q, y, ac, ab, z, aa, ae, af, ag, au, aq, ao, ap, bd, ba, aw, bb, bf]; done))
                          | (exact AvLe.list' (by simp [d, e, b, a, f, g, u, q, y, ac, ab, z, aa, ae, af, ag, au, aq, ao, ap, bd, ba, aw, bb, bf]; done) (by simp [d, e, b, a, f, g, u, q, y, ac, ab, z, aa, ae, af, ag, au, aq, ao, ap, bd, ba, aw, bb, bf]; done))
                          | (exact AvLe.eq (by simp [d, e, b, a, f, g, u, q, y, ac, ab, z, aa, ae, af, ag, au, aq, ao, ap, bd, ba, aw, bb, bf]; done) rfl)
                · rw [ae, if_pos rfl] at h
                  refine Wp.cond true (by first | (simp [d, e, b, a, f, g, u, q, y, ac, ab, z, aa, ae] <;> omega) | (have hq := ae; simp at hq; simp [d, e, b, a, f, g, u, q, y, ac, ab, z, aa, ae, hq]; done)) (fun _ => ?_) (fun h0 => absurd h0 (by decide))
                  refine Wp.reg_seq (own := fun _ => false) tt_ok ?_
                  iterate 1
                    refine regv_pure (s1 := ?_) rfl rfl ?_ ?_ ?_
                    rotate_left
                    · simp [d, e, b, a, f, g, u, q, y, ac, ab, z, aa, ae]; rfl
                    · first | (simp [d, e, b, a, f, g, u, q, y, ac, ab, z, aa, ae] <;> omega) | (have hq := ae; simp at hq; simp [d, e, b, a, f, g, u, q, y, ac, ab, z, aa, ae, hq]; done) | skip
                  refine regv_nil ?_
                  cases h
                  refine Wp.ret (endQ_ret0 rfl ?_)
                  repeat' first | exact All2.nil | refine All2.cons ?_ ?_ | refine AvLe.tups ?_ | refine AvLe.aggs ?_
                  all_goals first
                    | (exact AvLe.refl _ rfl)
                    | (exact AvLe.nil _)
                    | (exact AvLe.znil _)
                    | (exact AvLe.ghost _ rfl)
                    | (exact AvLe.zghost _ rfl)
                    | (exact AvLe.sl' rfl (by simp [d, e, b, a, f, g, u, q, y, ac, ab, z, aa, ae]; done) (by simp [d, e, b, a, f, g, u, q, y, ac, ab, z, aa, ae]; done))
                    | (exact AvLe.frz' rfl rfl rfl (by simp [d, e, b, a, f, g, u, q, y, ac, ab, z, aa, ae]; done) (by simp [d, e, b, a, f, g, u, q, y, ac, ab, z, aa, ae]; done) (by simp [d, e, b, a, f, g, u, q, y, ac, ab, z, aa, ae]; done))
                    | (exact AvLe.list' (by simp [d, e, b, a, f, g, u, q, y, ac, ab, z, aa, ae]; done) (by simp [d, e, b, a, f, g, u, q, y, ac, ab, z, aa, ae]; done))
                    | (exact AvLe.eq (by simp [d, e, b, a, f, g, u, q, y, ac, ab, z, aa, ae]; done) rfl)
          · skip
            refine Wp.reg_seq (own := fun _ => false) tt_ok ?_
            iterate 4
              refine regv_pure (s1 := ?_) rfl rfl ?_ ?_ ?_
              rotate_left
              · simp [d, e, b, a, f, g]; rfl
              · first | (simp [d, e, b, a, f, g] <;> omega) | (have hq := g; simp at hq; simp [d, e, b, a, f, g, hq]; done) | skip
            refine regv_nil ?_
            refine Wp.block ?_
            refine Wp.loopF (α := (List (ApiAddr × Bool)) × Int) (fun x => law16_RungevalLastCoilWins_S5 n _append0 a1 a2 bg x.1 x.2) (fun m x => law16_RungevalLastCoilWins_L5 n _append0 a1 a2 bg m x.1 x.2 = some r) (fun _ h => by cases h) ?_ n ([], 0) h ?_
            rotate_left
            · simp only [law16_RungevalLastCoilWins_S5]
              refine Reloc.mk2 [some 1, some 2, some 3] rfl rfl rfl (by decide) ?_ ?_
              · repeat' first | exact objsLe_nil | refine objsLe_cons ?_ ?_
                all_goals first
                  | exact trivial
                  | (refine ObjLe.var' rfl rfl ?_ rfl
                     repeat' first | exact All2.nil | refine All2.cons ?_ ?_
                     all_goals first | (exact AvLe.refl _ rfl) | (exact AvLe.sl _ _ _ _ rfl) | (exact AvLe.hptr _ _ _ _ rfl) | (exact AvLe.mp _ _ rfl) | (exact AvLe.nil _) | (exact AvLe.znil _) | (exact AvLe.ghost _ rfl) | (exact AvLe.zghost _ rfl) | (exact AvLe.sl' rfl (by simp [d, e, b, a, f, g]; done) (by first | (simp [d, e, b, a, f, g] <;> omega) | omega)) | (exact AvLe.frz2 rfl (by simp) rfl (by simp [d, e, b, a, f, g]; done) (by simp [d, e, b, a, f, g]; done) (by simp [d, e, b, a, f, g]; done)) | (exact AvLe.list' (by simp [d, e, b, a, f, g]; done) (by simp [d, e, b, a, f, g]; done)) | (exact AvLe.eq (by simp [d, e, b, a, f, g]; done) rfl))
                  | (exact ObjLe.map' rfl rfl)
                  | (exact ObjLe.map2 rfl rfl (by first | (simp [d, e, b, a, f, g]; done) | (simp [d, e, b, a, f, g]; rfl)))
                  | (exact ObjLe.ghost' rfl (by decide))
                  | (exact ObjLe.arr' rfl rfl (by first | (simp [d, e, b, a, f, g] <;> omega)) (fun _ _ => by first | rfl | (simp [d, e, b, a, f, g]; done)))
                  | ((simp [d, e, b, a, f, g]; done))
              · repeat' first | exact chLe_nil | refine chLe_cons ?_ ?_
                all_goals first
                  | (exact AvLe.refl _ rfl)
                  | (exact AvLe.sl _ _ _ _ rfl)
                  | (exact AvLe.hptr _ _ _ _ rfl)
                  | (exact AvLe.mp _ _ rfl)
                  | (exact AvLe.nil _)
                  | (exact AvLe.znil _)
                  | (exact AvLe.ghost _ rfl)
                  | (exact AvLe.zghost _ rfl)
                  | (exact AvLe.sl' rfl (by simp [d, e, b, a, f, g]; done) (by first | (simp [d, e, b, a, f, g] <;> omega) | omega))
                  | (exact AvLe.frz2 rfl (by simp) rfl (by simp [d, e, b, a, f, g]; done) (by simp [d, e, b, a, f, g]; done) (by simp [d, e, b, a, f, g]; done))
                  | (exact AvLe.list' (by simp [d, e, b, a, f, g]; done) (by simp [d, e, b, a, f, g]; done))
                  | (exact AvLe.eq (by simp [d, e, b, a, f, g]; done) rfl)
            rintro rec_n5 ⟨bo, bp⟩ h
            simp only [law16_RungevalLastCoilWins_S5]
            dsimp only [law16_RungevalLastCoilWins_L5] at h
            refine Wp.reg_seq (own := fun _ => false) tt_ok ?_
            iterate 1
              refine regv_pure (s1 := ?_) rfl rfl ?_ ?_ ?_
              rotate_left
              · simp [d, e, b, a, f, g]; rfl
              · first | (simp [d, e, b, a, f, g] <;> omega) | (have hq := g; simp at hq; simp [d, e, b, a, f, g, hq]; done) | skip
            refine regv_nil ?_
            refine Wp.seq ?_
            refine (Decidable.em (bp < (_append0.Coils.length : Int))).symm.elim (fun v => ?_) (fun v => ?_)
            · rw [if_neg (by simpa using v)] at h
              refine Wp.cond false (by first | (simp [d, e, b, a, f, g, v] <;> omega) | (have hq := v; simp at hq; simp [d, e, b, a, f, g, v, hq]; done)) (fun h0 => absurd h0 (by decide)) (fun _ => ?_)
              refine Wp.exit ?_
              refine next_mk bo h ?_
              refine Reloc.mk2 [some 0, some 1, some 2] rfl rfl rfl (by decide) ?_ ?_
              · repeat' first | exact objsLe_nil | refine objsLe_cons ?_ ?_
                all_goals first
                  | exact trivial
                  | (refine ObjLe.var' rfl rfl ?_ rfl
                     repeat' first | exact All2.nil | refine All2.cons ?_ ?_
                     all_goals first | (exact AvLe.refl _ rfl) | (exact AvLe.sl _ _ _ _ rfl) | (exact AvLe.hptr _ _ _ _ rfl) | (exact AvLe.mp _ _ rfl) | (exact AvLe.nil _) | (exact AvLe.znil _) | (exact AvLe.ghost _ rfl) | (exact AvLe.zghost _ rfl) | (exact AvLe.sl' rfl (by simp [d, e, b, a, f, g, v]; done) (by first | (simp [d, e, b, a, f, g, v] <;> omega) | omega)) | (exact AvLe.frz2 rfl (by simp) rfl (by simp [d, e, b, a, f, g, v]; done) (by simp [d, e, b, a, f, g, v]; done) (by simp [d, e, b, a, f, g, v]; done)) | (exact AvLe.list' (by simp [d, e, b, a, f, g, v]; done) (by simp [d, e, b, a, f, g, v]; done)) | (exact AvLe.eq (by simp [d, e, b, a, f, g, v]; done) rfl))
                  | (exact ObjLe.map' rfl rfl)
                  | (exact ObjLe.map2 rfl rfl (by first | (simp [d, e, b, a, f, g, v]; done) | (simp [d, e, b, a, f, g, v]; rfl)))
                  | (exact ObjLe.ghost' rfl (by decide))
                  | (exact ObjLe.arr' rfl rfl (by first | (simp [d, e, b, a, f, g, v] <;> omega)) (fun _ _ => by first | rfl | (simp [d, e, b, a, f, g, v]; done)))
                  | ((simp [d, e, b, a, f, g, v]; done))
              · repeat' first | exact chLe_nil | refine chLe_cons ?_ ?_
                all_goals first
                  | (exact AvLe.refl _ rfl)
                  | (exact AvLe.sl _ _ _ _ rfl)
                  | (exact AvLe.hptr _ _ _ _ rfl)
                  | (exact AvLe.mp _ _ rfl)
                  | (exact AvLe.nil _)
                  | (exact AvLe.znil _)
                  | (exact AvLe.ghost _ rfl)
                  | (exact AvLe.zghost _ rfl)
                  | (exact AvLe.sl' rfl (by simp [d, e, b, a, f, g, v]; done) (by first | (simp [d, e, b, a, f, g, v] <;> omega) | omega))
                  | (exact AvLe.frz2 rfl (by simp) rfl (by simp [d, e, b, a, f, g, v]; done) (by simp [d, e, b, a, f, g, v]; done) (by simp [d, e, b, a, f, g, v]; done))
                  | (exact AvLe.list' (by simp [d, e, b, a, f, g, v]; done) (by simp [d, e, b, a, f, g, v]; done))
                  | (exact AvLe.eq (by simp [d, e, b, a, f, g, v]; done) rfl)
            · rw [if_pos (decide_eq_true v)] at h
              refine Wp.cond true (by first | (simp [d, e, b, a, f, g, v] <;> omega) | (have hq := v; simp at hq; simp [d, e, b, a, f, g, v, hq]; done)) (fun _ => ?_) (fun h0 => absurd h0 (by decide))
              refine Wp.skip ?_
              show Wp _ _ _ _
              refine Wp.seq ?_
              refine Wp.block ?_
              refine Wp.reg_seq (own := fun _ => false) tt_ok ?_
              obtain ⟨bq, cj, h⟩ := obind h
              obtain ⟨o, k, i⟩ := atI_some cj
              try simp [d, e, b, a, f, g, v] at k
              try simp only [Int.toNat_natCast, Int.reduceToNat, Nat.zero_add, Nat.add_zero] at i
              have j := getElem_of i
              iterate 4
                refine regv_pure (s1 := ?_) rfl rfl ?_ ?_ ?_
                rotate_left
                · simp [d, e, b, a, f, g, v, o, k, i, j]; rfl
                · first | (simp [d, e, b, a, f, g, v, o, k, i, j] <;> omega) | (have hq := j; simp at hq; simp [d, e, b, a, f, g, v, o, k, i, j, hq]; done) | skip
              refine regv_nil ?_
              refine Wp.block ?_
              refine Wp.reg_seq (own := fun _ => false) tt_ok ?_
              iterate 4
                refine regv_pure (s1 := ?_) rfl rfl ?_ ?_ ?_
                rotate_left
                · simp [d, e, b, a, f, g, v, o, k, i, j]; rfl
                · first | (simp [d, e, b, a, f, g, v, o, k, i, j] <;> omega) | (have hq := j; simp at hq; simp [d, e, b, a, f, g, v, o, k, i, j, hq]; done) | skip
              cases w : (bq.Kind == 0)
              · rw [w, if_neg (by simp)] at h
                refine regv_pure (s1 := ?_) rfl ?_ ?_ ?_ ?_
                rotate_left
                · simp [d, e, b, a, f, g, v, o, k, i, j, w]; done
                · simp [d, e, b, a, f, g, v, o, k, i, j, w]; rfl
                · first | (simp [d, e, b, a, f, g, v, o, k, i, j, w] <;> omega) | (have hq := w; simp at hq; simp [d, e, b, a, f, g, v, o, k, i, j, w, hq]; done) | skip
                refine regv_pure (s1 := ?_) rfl ?_ ?_ ?_ ?_
                rotate_left
                · simp [d, e, b, a, f, g, v, o, k, i, j, w]; done
                · simp [d, e, b, a, f, g, v, o, k, i, j, w]; rfl
                · first | (simp [d, e, b, a, f, g, v, o, k, i, j, w] <;> omega) | (have hq := w; simp at hq; simp [d, e, b, a, f, g, v, o, k, i, j, w, hq]; done) | skip
                refine (Bool.eq_false_or_eq_true a2).symm.elim (fun ad => ?_) (fun ad => ?_)
                · rw [if_neg (by rw [ad]; simp)] at h
                  refine regv_skip (s1 := ?_) ?_ ?_ ?_
                  rotate_left
                  · simp [d, e, b, a, f, g, v, o, k, i, j, w, ad]; done
                  · simp [d, e, b, a, f, g, v, o, k, i, j, w, ad]; rfl
                  refine regv_skip (s1 := ?_) ?_ ?_ ?_
                  rotate_left
                  · simp [d, e, b, a, f, g, v, o, k, i, j, w, ad]; done
                  · simp [d, e, b, a, f, g, v, o, k, i, j, w, ad]; rfl
                  refine regv_skip (s1 := ?_) ?_ ?_ ?_
                  rotate_left
                  · simp [d, e, b, a, f, g, v, o, k, i, j, w, ad]; done
                  · simp [d, e, b, a, f, g, v, o, k, i, j, w, ad]; rfl
                  refine regv_pure (s1 := ?_) rfl ?_ ?_ ?_ ?_
                  rotate_left
                  · simp [d, e, b, a, f, g, v, o, k, i, j, w, ad]; done
                  · simp [d, e, b, a, f, g, v, o, k, i, j, w, ad]; rfl
                  · first | (simp [d, e, b, a, f, g, v, o, k, i, j, w, ad] <;> omega) | (have hq := ad; simp at hq; simp [d, e, b, a, f, g, v, o, k, i, j, w, ad, hq]; done) | skip
                  iterate 2
                    refine regv_pure (s1 := ?_) rfl rfl ?_ ?_ ?_
                    rotate_left
                    · simp [d, e, b, a, f, g, v, o, k, i, j, w, ad]; rfl
                    · first | (simp [d, e, b, a, f, g, v, o, k, i, j, w, ad] <;> omega) | (have hq := ad; simp at hq; simp [d, e, b, a, f, g, v, o, k, i, j, w, ad, hq]; done) | skip
                  refine regv_nil ?_
                  refine Wp.cond false (by first | (simp [d, e, b, a, f, g, v, o, k, i, j, w, ad] <;> omega) | (have hq := ad; simp at hq; simp [d, e, b, a, f, g, v, o, k, i, j, w, ad, hq]; done)) (fun h0 => absurd h0 (by decide)) (fun _ => ?_)
                  refine Wp.reg_seq (own := fun _ => false) tt_ok ?_
                  iterate 4
                    refine regv_pure (s1 := ?_) rfl rfl ?_ ?_ ?_
                    rotate_left
                    · simp [d, e, b, a, f, g, v, o, k, i, j, w, ad]; rfl
                    · first | (simp [d, e, b, a, f, g, v, o, k, i, j, w, ad] <;> omega) | (have hq := ad; simp at hq; simp [d, e, b, a, f, g, v, o, k, i, j, w, ad, hq]; done) | skip
                  refine regv_nil ?_
                  cases ak : (bq.Kind == 1)
                  · rw [ak, if_neg (by simp)] at h
                    refine Wp.cond false (by first | (simp [d, e, b, a, f, g, v, o, k, i, j, w, ad, ak] <;> omega) | (have hq := ak; simp at hq; simp [d, e, b, a, f, g, v, o, k, i, j, w, ad, ak, hq]; done)) (fun h0 => absurd h0 (by decide)) (fun _ => ?_)
                    refine Wp.reg_seq (own := fun _ => false) tt_ok ?_
                    iterate 2
                      refine regv_pure (s1 := ?_) rfl rfl ?_ ?_ ?_
                      rotate_left
                      · simp [d, e, b, a, f, g, v, o, k, i, j, w, ad, ak]; rfl
                      · first | (simp [d, e, b, a, f, g, v, o, k, i, j, w, ad, ak] <;> omega) | (have hq := ak; simp at hq; simp [d, e, b, a, f, g, v, o, k, i, j, w, ad, ak, hq]; done) | skip
                    refine regv_nil ?_
                    refine Wp.cond false (by first | (simp [d, e, b, a, f, g, v, o, k, i, j, w, ad, ak] <;> omega) | (have hq := ak; simp at hq; simp [d, e, b, a, f, g, v, o, k, i, j, w, ad, ak, hq]; done)) (fun h0 => absurd h0 (by decide)) (fun _ => ?_)
                    refine Wp.skip ?_
                    show Wp _ _ _ _
                    refine Wp.reg (own := fun _ => false) tt_ok ?_
                    iterate 2
                      refine regv_pure (s1 := ?_) rfl rfl ?_ ?_ ?_
                      rotate_left
                      · simp [d, e, b, a, f, g, v, o, k, i, j, w, ad, ak]; rfl
                      · first | (simp [d, e, b, a, f, g, v, o, k, i, j, w, ad, ak] <;> omega) | (have hq := ak; simp at hq; simp [d, e, b, a, f, g, v, o, k, i, j, w, ad, ak, hq]; done) | skip
                    refine regv_nil ?_
                    refine next_mk (bo, (IntKind.i64.wrap (bp + 1))) h ?_
                    refine Reloc.mk2 [some 0, some 1, some 2] rfl rfl rfl (by decide) ?_ ?_
                    · repeat' first | exact objsLe_nil | refine objsLe_cons ?_ ?_
                      all_goals first
                        | exact trivial
                        | (refine ObjLe.var' rfl rfl ?_ rfl
                           repeat' first | exact All2.nil | refine All2.cons ?_ ?_
                           all_goals first | (exact AvLe.refl _ rfl) | (exact AvLe.sl _ _ _ _ rfl) | (exact AvLe.hptr _ _ _ _ rfl) | (exact AvLe.mp _ _ rfl) | (exact AvLe.nil _) | (exact AvLe.znil _) | (exact AvLe.ghost _ rfl) | (exact AvLe.zghost _ rfl) | (exact AvLe.sl' rfl (by simp [d, e, b, a, f, g, v, o, k, i, j, w, ad, ak]; done) (by first | (simp [d, e, b, a, f, g, v, o, k, i, j, w, ad, ak] <;> omega) | omega)) | (exact AvLe.frz2 rfl (by simp) rfl (by simp [d, e, b, a, f, g, v, o, k, i, j, w, ad, ak]; done) (by simp [d, e, b, a, f, g, v, o, k, i, j, w, ad, ak]; done) (by simp [d, e, b, a, f, g, v, o, k, i, j, w, ad, ak]; done)) | (exact AvLe.list' (by simp [d, e, b, a, f, g, v, o, k, i, j, w, ad, ak]; done) (by simp [d, e, b, a, f, g, v, o, k, i, j, w, ad, ak]; done)) | (exact AvLe.eq (by simp [d, e, b, a, f, g, v, o, k, i, j, w, ad, ak]; done) rfl))
                        | (exact ObjLe.map' rfl rfl)
                        | (exact ObjLe.map2 rfl rfl (by first | (simp [d, e, b, a, f, g, v, o, k, i, j, w, ad, ak]; done) | (simp [d, e, b, a, f, g, v, o, k, i, j, w, ad, ak]; rfl)))
                        | (exact ObjLe.ghost' rfl (by decide))
                        | (exact ObjLe.arr' rfl rfl (by first | (simp [d, e, b, a, f, g, v, o, k, i, j, w, ad, ak] <;> omega)) (fun _ _ => by first | rfl | (simp [d, e, b, a, f, g, v, o, k, i, j, w, ad, ak]; done)))
                        | ((simp [d, e, b, a, f, g, v, o, k, i, j, w, ad, ak]; done))
                    · repeat' first | exact chLe_nil | refine chLe_cons ?_ ?_
                      all_goals first
                        | (exact AvLe.refl _ rfl)
                        | (exact AvLe.sl _ _ _ _ rfl)
                        | (exact AvLe.hptr _ _ _ _ rfl)
                        | (exact AvLe.mp _ _ rfl)
                        | (exact AvLe.nil _)
                        | (exact AvLe.znil _)
                        | (exact AvLe.ghost _ rfl)
                        | (exact AvLe.zghost _ rfl)
                        | (exact AvLe.sl' rfl (by simp [d, e, b, a, f, g, v, o, k, i, j, w, ad, ak]; done) (by first | (simp [d, e, b, a, f, g, v, o, k, i, j, w, ad, ak] <;> omega) | omega))
                        | (exact AvLe.frz2 rfl (by simp) rfl (by simp [d, e, b, a, f, g, v, o, k, i, j, w, ad, ak]; done) (by simp [d, e, b, a, f, g, v, o, k, i, j, w, ad, ak]; done) (by simp [d, e, b, a, f, g, v, o, k, i, j, w, ad, ak]; done))
                        | (exact AvLe.list' (by simp [d, e, b, a, f, g, v, o, k, i, j, w, ad, ak]; done) (by simp [d, e, b, a, f, g, v, o, k, i, j, w, ad, ak]; done))
                        | (exact AvLe.eq (by simp [d, e, b, a, f, g, v, o, k, i, j, w, ad, ak]; done) rfl)
                  · rw [ak, if_pos rfl] at h
                    refine Wp.cond true (by first | (simp [d, e, b, a, f, g, v, o, k, i, j, w, ad, ak] <;> omega) | (have hq := ak; simp at hq; simp [d, e, b, a, f, g, v, o, k, i, j, w, ad, ak, hq]; done)) (fun _ => ?_) (fun h0 => absurd h0 (by decide))
                    refine Wp.reg (own := fun _ => false) tt_ok ?_
                    iterate 6
                      refine regv_pure (s1 := ?_) rfl rfl ?_ ?_ ?_
                      rotate_left
                      · simp [d, e, b, a, f, g, v, o, k, i, j, w, ad, ak]; rfl
                      · first | (simp [d, e, b, a, f, g, v, o, k, i, j, w, ad, ak] <;> omega) | (have hq := ak; simp at hq; simp [d, e, b, a, f, g, v, o, k, i, j, w, ad, ak, hq]; done) | skip
                    refine regv_nil ?_
                    show Wp _ _ _ _
                    refine Wp.reg (own := fun _ => false) tt_ok ?_
                    iterate 2
                      refine regv_pure (s1 := ?_) rfl rfl ?_ ?_ ?_
                      rotate_left
                      · simp [d, e, b, a, f, g, v, o, k, i, j, w, ad, ak]; rfl
                      · first | (simp [d, e, b, a, f, g, v, o, k, i, j, w, ad, ak] <;> omega) | (have hq := ak; simp at hq; simp [d, e, b, a, f, g, v, o, k, i, j, w, ad, ak, hq]; done) | skip
                    refine regv_nil ?_
                    refine next_mk ((mPut bo bq.A (!a2)), (IntKind.i64.wrap (bp + 1))) h ?_
                    refine Reloc.mk2 [some 0, some 1, some 2] rfl rfl rfl (by decide) ?_ ?_
                    · repeat' first | exact objsLe_nil | refine objsLe_cons ?_ ?_
                      all_goals first
                        | exact trivial
                        | (refine ObjLe.var' rfl rfl ?_ rfl
                           repeat' first | exact All2.nil | refine All2.cons ?_ ?_
                           all_goals first | (exact AvLe.refl _ rfl) | (exact AvLe.sl _ _ _ _ rfl) | (exact AvLe.hptr _ _ _ _ rfl) | (exact AvLe.mp _ _ rfl) | (exact AvLe.nil _) | (exact AvLe.znil _) | (exact AvLe.ghost _ rfl) | (exact AvLe.zghost _ rfl) | (exact AvLe.sl' rfl (by simp [d, e, b, a, f, g, v, o, k, i, j, w, ad, ak]; done) (by first | (simp [d, e, b, a, f, g, v, o, k, i, j, w, ad, ak] <;> omega) | omega)) | (exact AvLe.frz2 rfl (by simp) rfl (by simp [d, e, b, a, f, g, v, o, k, i, j, w, ad, ak]; done) (by simp [d, e, b, a, f, g, v, o, k, i, j, w, ad, ak]; done) (by simp [d, e, b, a, f, g, v, o, k, i, j, w, ad, ak]; done)) | (exact AvLe.list' (by simp [d, e, b, a, f, g, v, o, k, i, j, w, ad, ak]; done) (by simp [d, e, b, a, f, g, v, o, k, i, j, w, ad, ak]; done)) | (exact AvLe.eq (by simp [d, e, b, a, f, g, v, o, k, i, j, w, ad, ak]; done) rfl))
                        | (exact ObjLe.map' rfl rfl)
                        | (exact ObjLe.map2 rfl rfl (by first | (simp [d, e, b, a, f, g, v, o, k, i, j, w, ad, ak]; done) | (simp [d, e, b, a, f, g, v, o, k, i, j, w, ad, ak]; rfl)))
                        | (exact ObjLe.ghost' rfl (by decide))
                        | (exact ObjLe.arr' rfl rfl (by first | (simp [d, e, b, a, f, g, v, o, k, i, j, w, ad, ak] <;> omega)) (fun _ _ => by first | rfl | (simp [d, e, b, a, f, g, v, o, k, i, j, w, ad, ak]; done)))
                        | ((simp [d, e, b, a, f, g, v, o, k, i, j, w, ad, ak]; done))
                    · repeat' first | exact chLe_nil | refine chLe_cons ?_ ?_
                      all_goals first
                        | (exact AvLe.refl _ rfl)
                        | (exact AvLe.sl _ _ _ _ rfl)
                        | (exact AvLe.hptr _ _ _ _ rfl)
                        | (exact AvLe.mp _ _ rfl)
                        | (exact AvLe.nil _)
                        | (exact AvLe.znil _)
                        | (exact AvLe.ghost _ rfl)
                        | (exact AvLe.zghost _ rfl)
                        | (exact AvLe.sl' rfl (by simp [d, e, b, a, f, g, v, o, k, i, j, w, ad, ak]; done) (by first | (simp [d, e, b, a, f, g, v, o, k, i, j, w, ad, ak] <;> omega) | omega))
                        | (exact AvLe.frz2 rfl (by simp) rfl (by simp [d, e, b, a, f, g, v, o, k, i, j, w, ad, ak]; done) (by simp [d, e, b, a, f, g, v, o, k, i, j, w, ad, ak]; done) (by simp [d, e, b, a, f, g, v, o, k, i, j, w, ad, ak]; done))
                        | (exact AvLe.list' (by simp [d, e, b, a, f, g, v, o, k, i, j, w, ad, ak]; done) (by simp [d, e, b, a, f, g, v, o, k, i, j, w, ad, ak]; done))
                        | (exact AvLe.eq (by simp [d, e, b, a, f, g, v, o, k, i, j, w, ad, ak]; done) rfl)
                · rw [if_pos ad] at h
                  refine regv_pure (s1 := ?_) rfl ?_ ?_ ?_ ?_
                  rotate_left
                  · simp [d, e, b, a, f, g, v, o, k, i, j, w, ad]; done
                  · simp [d, e, b, a, f, g, v, o, k, i, j, w, ad]; rfl
                  · first | (simp [d, e, b, a, f, g, v, o, k, i, j, w, ad] <;> omega) | (have hq := ad; simp at hq; simp [d, e, b, a, f, g, v, o, k, i, j, w, ad, hq]; done) | skip
                  refine regv_pure (s1 := ?_) rfl ?_ ?_ ?_ ?_
                  rotate_left
                  · simp [d, e, b, a, f, g, v, o, k, i, j, w, ad]; done
                  · simp [d, e, b, a, f, g, v, o, k, i, j, w, ad]; rfl
                  · first | (simp [d, e, b, a, f, g, v, o, k, i, j, w, ad] <;> omega) | (have hq := ad; simp at hq; simp [d, e, b, a, f, g, v, o, k, i, j, w, ad, hq]; done) | skip
                  refine regv_pure (s1 := ?_) rfl ?_ ?_ ?_ ?_
                  rotate_left
                  · simp [d, e, b, a, f, g, v, o, k, i, j, w, ad]; done
                  · simp [d, e, b, a, f, g, v, o, k, i, j, w, ad]; rfl
                  · first | (simp [d, e, b, a, f, g, v, o, k, i, j, w, ad] <;> omega) | (have hq := ad; simp at hq; simp [d, e, b, a, f, g, v, o, k, i, j, w, ad, hq]; done) | skip
                  refine regv_pure (s1 := ?_) rfl ?_ ?_ ?_ ?_
                  rotate_left
                  · simp [d, e, b, a, f, g, v, o, k, i, j, w, ad]; done
                  · simp [d, e, b, a, f, g, v, o, k, i, j, w, ad]; rfl
                  · first | (simp [d, e, b, a, f, g, v, o, k, i, j, w, ad] <;> omega) | (have hq := ad; simp at hq; simp [d, e, b, a, f, g, v, o, k, i, j, w, ad, hq]; done) | skip
                  iterate 2
                    refine regv_pure (s1 := ?_) rfl rfl ?_ ?_ ?_
                    rotate_left
                    · simp [d, e, b, a, f, g, v, o, k, i, j, w, ad]; rfl
                    · first | (simp [d, e, b, a, f, g, v, o, k, i, j, w, ad] <;> omega) | (have hq := ad; simp at hq; simp [d, e, b, a, f, g, v, o, k, i, j, w, ad, hq]; done) | skip
                  refine regv_nil ?_
                  cases ai : (bq.Kind == 2)
                  · rw [ai, if_neg (by simp)] at h
                    refine Wp.cond false (by first | (simp [d, e, b, a, f, g, v, o, k, i, j, w, ad, ai] <;> omega) | (have hq := ai; simp at hq; simp [d, e, b, a, f, g, v, o, k, i, j, w, ad, ai, hq]; done)) (fun h0 => absurd h0 (by decide)) (fun _ => ?_)
                    refine Wp.reg_seq (own := fun _ => false) tt_ok ?_
                    iterate 4
                      refine regv_pure (s1 := ?_) rfl rfl ?_ ?_ ?_
                      rotate_left
                      · simp [d, e, b, a, f, g, v, o, k, i, j, w, ad, ai]; rfl
                      · first | (simp [d, e, b, a, f, g, v, o, k, i, j, w, ad, ai] <;> omega) | (have hq := ai; simp at hq; simp [d, e, b, a, f, g, v, o, k, i, j, w, ad, ai, hq]; done) | skip
                    refine regv_nil ?_
                    cases aj : (bq.Kind == 1)
                    · rw [aj, if_neg (by simp)] at h
                      refine Wp.cond false (by first | (simp [d, e, b, a, f, g, v, o, k, i, j, w, ad, ai, aj] <;> omega) | (have hq := aj; simp at hq; simp [d, e, b, a, f, g, v, o, k, i, j, w, ad, ai, aj, hq]; done)) (fun h0 => absurd h0 (by decide)) (fun _ => ?_)
                      refine Wp.reg_seq (own := fun _ => false) tt_ok ?_
                      iterate 2
                        refine regv_pure (s1 := ?_) rfl rfl ?_ ?_ ?_
                        rotate_left
                        · simp [d, e, b, a, f, g, v, o, k, i, j, w, ad, ai, aj]; rfl
                        · first | (simp [d, e, b, a, f, g, v, o, k, i, j, w, ad, ai, aj] <;> omega) | (have hq := aj; simp at hq; simp [d, e, b, a, f, g, v, o, k, i, j, w, ad, ai, aj, hq]; done) | skip
                      refine regv_nil ?_
                      refine Wp.cond true (by first | (simp [d, e, b, a, f, g, v, o, k, i, j, w, ad, ai, aj] <;> omega) | (have hq := aj; simp at hq; simp [d, e, b, a, f, g, v, o, k, i, j, w, ad, ai, aj, hq]; done)) (fun _ => ?_) (fun h0 => absurd h0 (by decide))
                      refine Wp.reg (own := fun _ => false) tt_ok ?_
                      iterate 4
                        refine regv_pure (s1 := ?_) rfl rfl ?_ ?_ ?_
                        rotate_left
                        · simp [d, e, b, a, f, g, v, o, k, i, j, w, ad, ai, aj]; rfl
                        · first | (simp [d, e, b, a, f, g, v, o, k, i, j, w, ad, ai, aj] <;> omega) | (have hq := aj; simp at hq; simp [d, e, b, a, f, g, v, o, k, i, j, w, ad, ai, aj, hq]; done) | skip
                      refine regv_nil ?_
                      show Wp _ _ _ _
                      refine Wp.reg (own := fun _ => false) tt_ok ?_
                      iterate 2
                        refine regv_pure (s1 := ?_) rfl rfl ?_ ?_ ?_
                        rotate_left
                        · simp [d, e, b, a, f, g, v, o, k, i, j, w, ad, ai, aj]; rfl
                        · first | (simp [d, e, b, a, f, g, v, o, k, i, j, w, ad, ai, aj] <;> omega) | (have hq := aj; simp at hq; simp [d, e, b, a, f, g, v, o, k, i, j, w, ad, ai, aj, hq]; done) | skip
                      refine regv_nil ?_
                      refine next_mk ((mPut bo bq.A false), (IntKind.i64.wrap (bp + 1))) h ?_
                      refine Reloc.mk2 [some 0, some 1, some 2] rfl rfl rfl (by decide) ?_ ?_
                      · repeat' first | exact objsLe_nil | refine objsLe_cons ?_ ?_
                        all_goals first
                          | exact trivial
                          | (refine ObjLe.var' rfl rfl ?_ rfl
                             repeat' first | exact All2.nil | refine All2.cons ?_ ?_
                             all_goals first | (exact AvLe.refl _ rfl) | (exact AvLe.sl _ _ _ _ rfl) | (exact AvLe.hptr _ _ _ _ rfl) | (exact AvLe.mp _ _ rfl) | (exact AvLe.nil _) | (exact AvLe.znil _) | (exact AvLe.ghost _ rfl) | (exact AvLe.zghost _ rfl) | (exact AvLe.sl' rfl (by simp [d, e, b, a, f, g, v, o, k, i, j, w, ad, ai, aj]; done) (by first | (simp [d, e, b, a, f, g, v, o, k, i, j, w, ad, ai, aj] <;> omega) | omega)) | (exact AvLe.frz2 rfl (by simp) rfl (by simp [d, e, b, a, f, g, v, o, k, i, j, w, ad, ai, aj]; done) (by simp [d, e, b, a, f, g, v, o, k, i, j, w, ad, ai, aj]; done) (by simp [d, e, b, a, f, g, v, o, k, i, j, w, ad, ai, aj]; done)) | (exact AvLe.list' (by simp [d, e, b, a, f, g, v, o, k, i, j, w, ad, ai, aj]; done) (by simp [d, e, b, a, f, g, v, o, k, i, j, w, ad, ai, aj]; done)) | (exact AvLe.eq (by simp [d, e, b, a, f, g, v, o, k, i, j, w, ad, ai, aj]; done) rfl))
                          | (exact ObjLe.map' rfl rfl)
                          | (exact ObjLe.map2 rfl rfl (by first | (simp [d, e, b, a, f, g, v, o, k, i, j, w, ad, ai, aj]; done) | (simp [d, e, b, a, f, g, v, o, k, i, j, w, ad, ai, aj]; rfl)))
                          | (exact ObjLe.ghost' rfl (by decide))
                          | (exact ObjLe.arr' rfl rfl (by first | (simp [d, e, b, a, f, g, v, o, k, i, j, w, ad, ai, aj] <;> omega)) (fun _ _ => by first | rfl | (simp [d, e, b, a, f, g, v, o, k, i, j, w, ad, ai, aj]; done)))
                          | ((simp [d, e, b, a, f, g, v, o, k, i, j, w, ad, ai, aj]; done))
                      · repeat' first | exact chLe_nil | refine chLe_cons ?_ ?_
                        all_goals first
                          | (exact AvLe.refl _ rfl)
                          | (exact AvLe.sl _ _ _ _ rfl)
                          | (exact AvLe.hptr _ _ _ _ rfl)
                          | (exact AvLe.mp _ _ rfl)
                          | (exact AvLe.nil _)
                          | (exact AvLe.znil _)
                          | (exact AvLe.ghost _ rfl)
                          | (exact AvLe.zghost _ rfl)
                          | (exact AvLe.sl' rfl (by simp [d, e, b, a, f, g, v, o, k, i, j, w, ad, ai, aj]; done) (by first | (simp [d, e, b, a, f, g, v, o, k, i, j, w, ad, ai, aj] <;> omega) | omega))
                          | (exact AvLe.frz2 rfl (by simp) rfl (by simp [d, e, b, a, f, g, v, o, k, i, j, w, ad, ai, aj]; done) (by simp [d, e, b, a, f, g, v, o, k, i, j, w, ad, ai, aj]; done) (by simp [d, e, b, a, f, g, v, o, k, i, j, w, ad, ai, aj]; done))
                          | (exact AvLe.list' (by simp [d, e, b, a, f, g, v, o, k, i, j, w, ad, ai, aj]; done) (by simp [d, e, b, a, f, g, v, o, k, i, j, w, ad, ai, aj]; done))
                          | (exact AvLe.eq (by simp [d, e, b, a, f, g, v, o, k, i, j, w, ad, ai, aj]; done) rfl)
                    · rw [aj, if_pos rfl] at h
                      refine Wp.cond true (by first | (simp [d, e, b, a, f, g, v, o, k, i, j, w, ad, ai, aj] <;> omega) | (have hq := aj; simp at hq; simp [d, e, b, a, f, g, v, o, k, i, j, w, ad, ai, aj, hq]; done)) (fun _ => ?_) (fun h0 => absurd h0 (by decide))
                      refine Wp.reg (own := fun _ => false) tt_ok ?_
                      iterate 6
                        refine regv_pure (s1 := ?_) rfl rfl ?_ ?_ ?_
                        rotate_left
                        · simp [d, e, b, a, f, g, v, o, k, i, j, w, ad, ai, aj]; rfl
                        · first | (simp [d, e, b, a, f, g, v, o, k, i, j, w, ad, ai, aj] <;> omega) | (have hq := aj; simp at hq; simp [d, e, b, a, f, g, v, o, k, i, j, w, ad, ai, aj, hq]; done) | skip
                      refine regv_nil ?_
                      show Wp _ _ _ _
                      refine Wp.reg (own := fun _ => false) tt_ok ?_
                      iterate 2
                        refine regv_pure (s1 := ?_) rfl rfl ?_ ?_ ?_
                        rotate_left
                        · simp [d, e, b, a, f, g, v, o, k, i, j, w, ad, ai, aj]; rfl
                        · first | (simp [d, e, b, a, f, g, v, o, k, i, j, w, ad, ai, aj] <;> omega) | (have hq := aj; simp at hq; simp [d, e, b, a, f, g, v, o, k, i, j, w, ad, ai, aj, hq]; done) | skip
                      refine regv_nil ?_
                      refine next_mk ((mPut bo bq.A (!a2)), (IntKind.i64.wrap (bp + 1))) h ?_
                      refine Reloc.mk2 [some 0, some 1, some 2] rfl rfl rfl (by decide) ?_ ?_
                      · repeat' first | exact objsLe_nil | refine objsLe_cons ?_ ?_
                        all_goals first
                          | exact trivial
                          | (refine ObjLe.var' rfl rfl ?_ rfl
                             repeat' first | exact All2.nil | refine All2.cons ?_ ?_
                             all_goals first | (exact AvLe.refl _ rfl) | (exact AvLe.sl _ _ _ _ rfl) | (exact AvLe.hptr _ _ _ _ rfl) | (exact AvLe.mp _ _ rfl) | (exact AvLe.nil _) | (exact AvLe.znil _) | (exact AvLe.ghost _ rfl) | (exact AvLe.zghost _ rfl) | (exact AvLe.sl' rfl (by simp [d, e, b, a, f, g, v, o, k, i, j, w, ad, ai, aj]; done) (by first | (simp [d, e, b, a, f, g, v, o, k, i, j, w, ad, ai, aj] <;> omega) | omega)) | (exact AvLe.frz2 rfl (by simp) rfl (by simp [d, e, b, a, f, g, v, o, k, i, j, w, ad, ai, aj]; done) (by simp [d, e, b, a, f, g, v, o, k, i, j, w, ad, ai, aj]; done) (by simp [d, e, b, a, f, g, v, o, k, i, j, w, ad, ai, aj]; done)) | (exact AvLe.list' (by simp [d, e, b, a, f, g, v, o, k, i, j, w, ad, ai, aj]; done) (by simp [d, e, b, a, f, g, v, o, k, i, j, w, ad, ai, aj]; done)) | (exact AvLe.eq (by simp [d, e, b, a, f, g, v, o, k, i, j, w, ad, ai, aj]; done) rfl))
                          | (exact ObjLe.map' rfl rfl)
                          | (exact ObjLe.map2 rfl rfl (by first | (simp [d, e, b, a, f, g, v, o, k, i, j, w, ad, ai, aj]; done) | (simp [d, e, b, a, f, g, v, o, k, i, j, w, ad, ai, aj]; rfl)))
                          | (exact ObjLe.ghost' rfl (by decide))
                          | (exact ObjLe.arr' rfl rfl (by first | (simp [d, e, b, a, f, g, v, o, k, i, j, w, ad, ai, aj] <;> omega)) (fun _ _ => by first | rfl | (simp [d, e, b, a, f, g, v, o, k, i, j, w, ad, ai, aj]; done)))
                          | ((simp [d, e, b, a, f, g, v, o, k, i, j, w, ad, ai, aj]; done))
                      · repeat' first | exact chLe_nil | refine chLe_cons ?_ ?_
                        all_goals first
                          | (exact AvLe.refl _ rfl)
                          | (exact AvLe.sl _ _ _ _ rfl)
                          | (exact AvLe.hptr _ _ _ _ rfl)
                          | (exact AvLe.mp _ _ rfl)
                          | (exact AvLe.nil _)
                          | (exact AvLe.znil _)
                          | (exact AvLe.ghost _ rfl)
                          | (exact AvLe.zghost _ rfl)
                          | (exact AvLe.sl' rfl (by simp [d, e, b, a, f, g, v, o, k, i, j, w, ad, ai, aj]; done) (by first | (simp [d, e, b, a, f, g, v, o, k, i, j, w, ad, ai, aj] <;> omega) | omega))
                          | (exact AvLe.frz2 rfl (by simp) rfl (by simp [d, e, b, a, f, g, v, o, k, i, j, w, ad, ai, aj]; done) (by simp [d, e, b, a, f, g, v, o, k, i, j, w, ad, ai, aj]; done) (by simp [d, e, b, a, f, g, v, o, k, i, j, w, ad, ai, aj]; done))
                          | (exact AvLe.list' (by simp [d, e, b, a, f, g, v, o, k, i, j, w, ad, ai, aj]; done) (by simp [d, e, b, a, f, g, v, o, k, i, j, w, ad, ai, aj]; done))
                          | (exact AvLe.eq (by simp [d, e, b, a, f, g, v, o, k, i, j, w, ad, ai, aj]; done) rfl)
                  · rw [ai, if_pos rfl] at h
                    refine Wp.cond true (by first | (simp [d, e, b, a, f, g, v, o, k, i, j, w, ad, ai] <;> omega) | (have hq := ai; simp at hq; simp [d, e, b, a, f, g, v, o, k, i, j, w, ad, ai, hq]; done)) (fun _ => ?_) (fun h0 => absurd h0 (by decide))
                    refine Wp.reg (own := fun _ => false) tt_ok ?_
                    iterate 5
                      refine regv_pure (s1 := ?_) rfl rfl ?_ ?_ ?_
                      rotate_left
                      · simp [d, e, b, a, f, g, v, o, k, i, j, w, ad, ai]; rfl
                      · first | (simp [d, e, b, a, f, g, v, o, k, i, j, w, ad, ai] <;> omega) | (have hq := ai; simp at hq; simp [d, e, b, a, f, g, v, o, k, i, j, w, ad, ai, hq]; done) | skip
                    refine regv_nil ?_
                    show Wp _ _ _ _
                    refine Wp.reg (own := fun _ => false) tt_ok ?_
                    iterate 2
                      refine regv_pure (s1 := ?_) rfl rfl ?_ ?_ ?_
                      rotate_left
                      · simp [d, e, b, a, f, g, v, o, k, i, j, w, ad, ai]; rfl
                      · first | (simp [d, e, b, a, f, g, v, o, k, i, j, w, ad, ai] <;> omega) | (have hq := ai; simp at hq; simp [d, e, b, a, f, g, v, o, k, i, j, w, ad, ai, hq]; done) | skip
                    refine regv_nil ?_
                    refine next_mk ((mPut bo bq.A a2), (IntKind.i64.wrap (bp + 1))) h ?_
                    refine Reloc.mk2 [some 0, some 1, some 2] rfl rfl rfl (by decide) ?_ ?_
                    · repeat' first | exact objsLe_nil | refine objsLe_cons ?_ ?_
                      all_goals first
                        | exact trivial
                        | (refine ObjLe.var' rfl rfl ?_ rfl
                           repeat' first | exact All2.nil | refine All2.cons ?_ ?_
                           all_goals first | (exact AvLe.refl _ rfl) | (exact AvLe.sl _ _ _ _ rfl) | (exact AvLe.hptr _ _ _ _ rfl) | (exact AvLe.mp _ _ rfl) | (exact AvLe.nil _) | (exact AvLe.znil _) | (exact AvLe.ghost _ rfl) | (exact AvLe.zghost _ rfl) | (exact AvLe.sl' rfl (by simp [d, e, b, a, f, g, v, o, k, i, j, w, ad, ai]; done) (by first | (simp [d, e, b, a, f, g, v, o, k, i, j, w, ad, ai] <;> omega) | omega)) | (exact AvLe.frz2 rfl (by simp) rfl (by simp [d, e, b, a, f, g, v, o, k, i, j, w, ad, ai]; done) (by simp [d, e, b, a, f, g, v, o, k, i, j, w, ad, ai]; done) (by simp [d, e, b, a, f, g, v, o, k, i, j, w, ad, ai]; done)) | (exact AvLe.list' (by simp [d, e, b, a, f, g, v, o, k, i, j, w, ad, ai]; done) (by simp [d, e, b, a, f, g, v, o, k, i, j, w, ad, ai]; done)) | (exact AvLe.eq (by simp [d, e, b, a, f, g, v, o, k, i, j, w, ad, ai]; done) rfl))
                        | (exact ObjLe.map' rfl rfl)
                        | (exact ObjLe.map2 rfl rfl (by first | (simp [d, e, b, a, f, g, v, o, k, i, j, w, ad, ai]; done) | (simp [d, e, b, a, f, g, v, o, k, i, j, w, ad, ai]; rfl)))
                        | (exact ObjLe.ghost' rfl (by decide))
                        | (exact ObjLe.arr' rfl rfl (by first | (simp [d, e, b, a, f, g, v, o, k, i, j, w, ad, ai] <;> omega)) (fun _ _ => by first | rfl | (simp [d, e, b, a, f, g, v, o, k, i, j, w, ad, ai]; done)))
                        | ((simp [d, e, b, a, f, g, v, o, k, i, j, w, ad, ai]; done))
                    · repeat' first | exact chLe_nil | refine chLe_cons ?_ ?_
                      all_goals first
                        | (exact AvLe.refl _ rfl)
                        | (exact AvLe.sl _ _ _ _ rfl)
                        | (exact AvLe.hptr _ _ _ _ rfl)
                        | (exact AvLe.mp _ _ rfl)
                        | (exact AvLe.nil _)
                        | (exact AvLe.znil _)
                        | (exact AvLe.ghost _ rfl)
                        | (exact AvLe.zghost _ rfl)
                        | (exact AvLe.sl' rfl (by simp [d, e, b, a, f, g, v, o, k, i, j, w, ad, ai]; done) (by first | (simp [d, e, b, a, f, g, v, o, k, i, j, w, ad, ai] <;> omega) | omega))
                        | (exact AvLe.frz2 rfl (by simp) rfl (by simp [d, e, b, a, f, g, v, o, k, i, j, w, ad, ai]; done) (by simp [d, e, b, a, f, g, v, o, k, i, j, w, ad, ai]; done) (by simp [d, e, b, a, f, g, v, o, k, i, j, w, ad, ai]; done))
                        | (exact AvLe.list' (by simp [d, e, b, a, f, g, v, o, k, i, j, w, ad, ai]; done) (by simp [d, e, b, a, f, g, v, o, k, i, j, w, ad, ai]; done))
                        | (exact AvLe.eq (by simp [d, e, b, a, f, g, v, o, k, i, j, w, ad, ai]; done) rfl)
              · rw [w, if_pos rfl] at h
                refine regv_skip (s1 := ?_) ?_ ?_ ?_
                rotate_left
                · simp [d, e, b, a, f, g, v, o, k, i, j, w]; done
                · simp [d, e, b, a, f, g, v, o, k, i, j, w]; rfl
                refine regv_skip (s1 := ?_) ?_ ?_ ?_
                rotate_left
                · simp [d, e, b, a, f, g, v, o, k, i, j, w]; done
                · simp [d, e, b, a, f, g, v, o, k, i, j, w]; rfl
                refine regv_skip (s1 := ?_) ?_ ?_ ?_
                rotate_left
                · simp [d, e, b, a, f, g, v, o, k, i, j, w]; done
                · simp [d, e, b, a, f, g, v, o, k, i, j, w]; rfl
                refine regv_skip (s1 := ?_) ?_ ?_ ?_
                rotate_left
                · simp [d, e, b, a, f, g, v, o, k, i, j, w]; done
                · simp [d, e, b, a, f, g, v, o, k, i, j, w]; rfl
                refine regv_skip (s1 := ?_) ?_ ?_ ?_
                rotate_left
                · simp [d, e, b, a, f, g, v, o, k, i, j, w]; done
                · simp [d, e, b, a, f, g, v, o, k, i, j, w]; rfl
                refine regv_skip (s1 := ?_) ?_ ?_ ?_
                rotate_left
                · simp [d, e, b, a, f, g, v, o, k, i, j, w]; done
                · simp [d, e, b, a, f, g, v, o, k, i, j, w]; rfl
                iterate 2
                  refine regv_pure (s1 := ?_) rfl rfl ?_ ?_ ?_
                  rotate_left
                  · simp [d, e, b, a, f, g, v, o, k, i, j, w]; rfl
                  · first | (simp [d, e, b, a, f, g, v, o, k, i, j, w] <;> omega) | (have hq := w; simp at hq; simp [d, e, b, a, f, g, v, o, k, i, j, w, hq]; done) | skip
                refine regv_nil ?_
                refine Wp.cond true (by first | (simp [d, e, b, a, f, g, v, o, k, i, j, w] <;> omega) | (have hq := w; simp at hq; simp [d, e, b, a, f, g, v, o, k, i, j, w, hq]; done)) (fun _ => ?_) (fun h0 => absurd h0 (by decide))
                refine Wp.reg (own := fun _ => false) tt_ok ?_
                iterate 5
                  refine regv_pure (s1 := ?_) rfl rfl ?_ ?_ ?_
                  rotate_left
                  · simp [d, e, b, a, f, g, v, o, k, i, j, w]; rfl
                  · first | (simp [d, e, b, a, f, g, v, o, k, i, j, w] <;> omega) | (have hq := w; simp at hq; simp [d, e, b, a, f, g, v, o, k, i, j, w, hq]; done) | skip
                refine regv_nil ?_
                show Wp _ _ _ _
                refine Wp.reg (own := fun _ => false) tt_ok ?_
                iterate 2
                  refine regv_pure (s1 := ?_) rfl rfl ?_ ?_ ?_
                  rotate_left
                  · simp [d, e, b, a, f, g, v, o, k, i, j, w]; rfl
                  · first | (simp [d, e, b, a, f, g, v, o, k, i, j, w] <;> omega) | (have hq := w; simp at hq; simp [d, e, b, a, f, g, v, o, k, i, j, w, hq]; done) | skip
                refine regv_nil ?_
                refine next_mk ((mPut bo bq.A a2), (IntKind.i64.wrap (bp + 1))) h ?_
                refine Reloc.mk2 [some 0, some 1, some 2] rfl rfl rfl (by decide) ?_ ?_
                · repeat' first | exact objsLe_nil | refine objsLe_cons ?_ ?_
                  all_goals first
                    | exact trivial
                    | (refine ObjLe.var' rfl rfl ?_ rfl
                       repeat' first | exact All2.nil | refine All2.cons ?_ ?_
                       all_goals first | (exact AvLe.refl _ rfl) | (exact AvLe.sl _ _ _ _ rfl) | (exact AvLe.hptr _ _ _ _ rfl) | (exact AvLe.mp _ _ rfl) | (exact AvLe.nil _) | (exact AvLe.znil _) | (exact AvLe.ghost _ rfl) | (exact AvLe.zghost _ rfl) | (exact AvLe.sl' rfl (by simp [d, e, b, a, f, g, v, o, k, i, j, w]; done) (by first | (simp [d, e, b, a, f, g, v, o, k, i, j, w] <;> omega) | omega)) | (exact AvLe.frz2 rfl (by simp) rfl (by simp [d, e, b, a, f, g, v, o, k, i, j, w]; done) (by simp [d, e, b, a, f, g, v, o, k, i, j, w]; done) (by simp [d, e, b, a, f, g, v, o, k, i, j, w]; done)) | (exact AvLe.list' (by simp [d, e, b, a, f, g, v, o, k, i, j, w]; done) (by simp [d, e, b, a, f, g, v, o, k, i, j, w]; done)) | (exact AvLe.eq (by simp [d, e, b, a, f, g, v, o, k, i, j, w]; done) rfl))
                    | (exact ObjLe.map' rfl rfl)
                    | (exact ObjLe.map2 rfl rfl (by first | (simp [d, e, b, a, f, g, v, o, k, i, j, w]; done) | (simp [d, e, b, a, f, g, v, o, k, i, j, w]; rfl)))
                    | (exact ObjLe.ghost' rfl (by decide))
                    | (exact ObjLe.arr' rfl rfl (by first | (simp [d, e, b, a, f, g, v, o, k, i, j, w] <;> omega)) (fun _ _ => by first | rfl | (simp [d, e, b, a, f, g, v, o, k, i, j, w]; done)))
                    | ((simp [d, e, b, a, f, g, v, o, k, i, j, w]; done))
                · repeat' first | exact chLe_nil | refine chLe_cons ?_ ?_
                  all_goals first
                    | (exact AvLe.refl _ rfl)
                    | (exact AvLe.sl _ _ _ _ rfl)
                    | (exact AvLe.hptr _ _ _ _ rfl)
                    | (exact AvLe.mp _ _ rfl)
                    | (exact AvLe.nil _)
                    | (exact AvLe.znil _)
                    | (exact AvLe.ghost _ rfl)
                    | (exact AvLe.zghost _ rfl)
                    | (exact AvLe.sl' rfl (by simp [d, e, b, a, f, g, v, o, k, i, j, w]; done) (by first | (simp [d, e, b, a, f, g, v, o, k, i, j, w] <;> omega) | omega))
                    | (exact AvLe.frz2 rfl (by simp) rfl (by simp [d, e, b, a, f, g, v, o, k, i, j, w]; done) (by simp [d, e, b, a, f, g, v, o, k, i, j, w]; done) (by simp [d, e, b, a, f, g, v, o, k, i, j, w]; done))
                    | (exact AvLe.list' (by simp [d, e, b, a, f, g, v, o, k, i, j, w]; done) (by simp [d, e, b, a, f, g, v, o, k, i, j, w]; done))
                    | (exact AvLe.eq (by simp [d, e, b, a, f, g, v, o, k, i, j, w]; done) rfl)
        · rw [g, if_pos rfl] at h
          refine Wp.cond true (by first | (simp [d, e, b, a, f, g] <;> omega) | (have hq := g; simp at hq; simp [d, e, b, a, f, g, hq]; done)) (fun _ => ?_) (fun h0 => absurd h0 (by decide))
          refine Wp.reg_seq (own := fun _ => false) tt_ok ?_
          obtain ⟨dd, ck, h⟩ := obind h
          refine regv_call2 (s' := ?_) (p := ?_) (con_law16_alive ck) rfl rfl rfl rfl ?_ ?_ ?_ ?_ ?_ ?_
          rotate_left 2
          · simp [d, e, b, a, f, g]; rfl
          · first | exact .inl rfl | (refine .inl ?_; simp [d, e, b, a, f, g]; done) | (refine .inr ?_; dsimp only; repeat' first | exact All2.nil | refine All2.cons ?_ ?_) <;> first | exact AvLe.refl _ rfl | exact AvLe.nil _ | exact AvLe.znil _ | exact AvLe.list' (by simp [d, e, b, a, f, g]; done) (by simp [d, e, b, a, f, g]; done) | exact AvLe.eq (by simp [d, e, b, a, f, g]; done) rfl
          · first | (simp [d, e, b, a, f, g] <;> omega) | (have hq := g; simp at hq; simp [d, e, b, a, f, g, hq]; done) | skip
          · simp
          · simp [d, e, b, a, f, g]; rfl
          iterate 1
            refine regv_pure (s1 := ?_) rfl rfl ?_ ?_ ?_
            rotate_left
            · simp [d, e, b, a, f, g]; rfl
            · first | (simp [d, e, b, a, f, g] <;> omega) | (have hq := g; simp at hq; simp [d, e, b, a, f, g, hq]; done) | skip
          refine regv_nil ?_
          cases h
          refine Wp.ret (endQ_ret0 rfl ?_)
          repeat' first | exact All2.nil | refine All2.cons ?_ ?_ | refine AvLe.tups ?_ | refine AvLe.aggs ?_
          all_goals first
            | (exact AvLe.refl _ rfl)
            | (exact AvLe.nil _)
            | (exact AvLe.znil _)
            | (exact AvLe.ghost _ rfl)
            | (exact AvLe.zghost _ rfl)
            | (exact AvLe.sl' rfl (by simp [d, e, b, a, f, g]; done) (by simp [d, e, b, a, f, g]; done))
            | (exact AvLe.frz' rfl rfl rfl (by simp [d, e, b, a, f, g]; done) (by simp [d, e, b, a, f, g]; done) (by simp [d, e, b, a, f, g]; done))
            | (exact AvLe.list' (by simp [d, e, b, a, f, g]; done) (by simp [d, e, b, a, f, g]; done))
            | (exact AvLe.eq (by simp [d, e, b, a, f, g]; done) rfl)
      · rw [if_pos (decide_eq_true f)] at h
        refine Wp.cond true (by first | (simp [d, e, b, a, f] <;> omega) | (have hq := f; simp at hq; simp [d, e, b, a, f, hq]; done)) (fun _ => ?_) (fun h0 => absurd h0 (by decide))
        refine Wp.reg_seq (own := fun _ => false) tt_ok ?_
        obtain ⟨de, cm, h⟩ := obind h
        refine regv_call2 (s' := ?_) (p := ?_) (con_law16_alive cm) rfl rfl rfl rfl ?_ ?_ ?_ ?_ ?_ ?_
        rotate_left 2
        · simp [d, e, b, a, f]; rfl
        · first | exact .inl rfl | (refine .inl ?_; simp [d, e, b, a, f]; done) | (refine .inr ?_; dsimp only; repeat' first | exact All2.nil | refine All2.cons ?_ ?_) <;> first | exact AvLe.refl _ rfl | exact AvLe.nil _ | exact AvLe.znil _ | exact AvLe.list' (by simp [d, e, b, a, f]; done) (by simp [d, e, b, a, f]; done) | exact AvLe.eq (by simp [d, e, b, a, f]; done) rfl
        · first | (simp [d, e, b, a, f] <;> omega) | (have hq := f; simp at hq; simp [d, e, b, a, f, hq]; done) | skip
        · simp
        · simp [d, e, b, a, f]; rfl
        iterate 1
          refine regv_pure (s1 := ?_) rfl rfl ?_ ?_ ?_
          rotate_left
          · simp [d, e, b, a, f]; rfl
          · first | (simp [d, e, b, a, f] <;> omega) | (have hq := f; simp at hq; simp [d, e, b, a, f, hq]; done) | skip
        refine regv_nil ?_
        cases h
        refine Wp.ret (endQ_ret0 rfl ?_)
        repeat' first | exact All2.nil | refine All2.cons ?_ ?_ | refine AvLe.tups ?_ | refine AvLe.aggs ?_
        all_goals first
          | (exact AvLe.refl _ rfl)
          | (exact AvLe.nil _)
          | (exact AvLe.znil _)
          | (exact AvLe.ghost _ rfl)
          | (exact AvLe.zghost _ rfl)
          | (exact AvLe.sl' rfl (by simp [d, e, b, a, f]; done) (by simp [d, e, b, a, f]; done))
          | (exact AvLe.frz' rfl rfl rfl (by simp [d, e, b, a, f]; done) (by simp [d, e, b, a, f]; done) (by simp [d, e, b, a, f]; done))
          | (exact AvLe.list' (by simp [d, e, b, a, f]; done) (by simp [d, e, b, a, f]; done))
          | (exact AvLe.eq (by simp [d, e, b, a, f]; done) rfl)
    · rw [if_pos (decide_eq_true e)] at h
      refine regv_skip (s1 := ?_) ?_ ?_ ?_
      rotate_left
      · simp [d, e]; done
      · simp [d, e]; rfl
      refine regv_skip (s1 := ?_) ?_ ?_ ?_
      rotate_left
      · simp [d, e]; done
      · simp [d, e]; rfl
      refine regv_skip (s1 := ?_) ?_ ?_ ?_
      rotate_left
      · simp [d, e]; done
      · simp [d, e]; rfl
      refine regv_skip (s1 := ?_) ?_ ?_ ?_
      rotate_left
      · simp [d, e]; done
      · simp [d, e]; rfl
      iterate 1
        refine regv_pure (s1 := ?_) rfl rfl ?_ ?_ ?_
        rotate_left
        · simp [d, e]; rfl
        · first | (simp [d, e] <;> omega) | (have hq := e; simp at hq; simp [d, e, hq]; done) | skip
      refine regv_nil ?_
      refine Wp.cond true (by first | (simp [d, e] <;> omega) | (have hq := e; simp at hq; simp [d, e, hq]; done)) (fun _ => ?_) (fun h0 => absurd h0 (by decide))
      refine Wp.reg_seq (own := fun _ => false) tt_ok ?_
      obtain ⟨df, co, h⟩ := obind h
      refine regv_call2 (s' := ?_) (p := ?_) (con_law16_alive co) rfl rfl rfl rfl ?_ ?_ ?_ ?_ ?_ ?_
      rotate_left 2
      · simp [d, e]; rfl
      · first | exact .inl rfl | (refine .inl ?_; simp [d, e]; done) | (refine .inr ?_; dsimp only; repeat' first | exact All2.nil | refine All2.cons ?_ ?_) <;> first | exact AvLe.refl _ rfl | exact AvLe.nil _ | exact AvLe.znil _ | exact AvLe.list' (by simp [d, e]; done) (by simp [d, e]; done) | exact AvLe.eq (by simp [d, e]; done) rfl
      · first | (simp [d, e] <;> omega) | (have hq := e; simp at hq; simp [d, e, hq]; done) | skip
      · simp
      · simp [d, e]; rfl
      iterate 1
        refine regv_pure (s1 := ?_) rfl rfl ?_ ?_ ?_
        rotate_left
        · simp [d, e]; rfl
        · first | (simp [d, e] <;> omega) | (have hq := e; simp at hq; simp [d, e, hq]; done) | skip
      refine regv_nil ?_
      cases h
      refine Wp.ret (endQ_ret0 rfl ?_)
      repeat' first | exact All2.nil | refine All2.cons ?_ ?_ | refine AvLe.tups ?_ | refine AvLe.aggs ?_
      all_goals first
        | (exact AvLe.refl _ rfl)
        | (exact AvLe.nil _)
        | (exact AvLe.znil _)
        | (exact AvLe.ghost _ rfl)
        | (exact AvLe.zghost _ rfl)
        | (exact AvLe.sl' rfl (by simp [d, e]; done) (by simp [d, e]; done))
        | (exact AvLe.frz' rfl rfl rfl (by simp [d, e]; done) (by simp [d, e]; done) (by simp [d, e]; done))
        | (exact AvLe.list' (by simp [d, e]; done) (by simp [d, e]; done))
        | (exact AvLe.eq (by simp [d, e]; done) rfl)
  · rw [if_pos (decide_eq_true d)] at h
    refine regv_skip (s1 := ?_) ?_ ?_ ?_
    rotate_left
    · simp [d]; done
    · simp [d]; rfl
    refine regv_skip (s1 := ?_) ?_ ?_ ?_
    rotate_left
    · simp [d]; done
    · simp [d]; rfl
    refine regv_skip (s1 := ?_) ?_ ?_ ?_
    rotate_left
    · simp [d]; done
    · simp [d]; rfl
    refine regv_skip (s1 := ?_) ?_ ?_ ?_
    rotate_left
    · simp [d]; done
    · simp [d]; rfl
    iterate 2
      refine regv_pure (s1 := ?_) rfl rfl ?_ ?_ ?_
      rotate_left
      · simp [d]; rfl
      · first | (simp [d] <;> omega) | (have hq := d; simp at hq; simp [d, hq]; done) | skip
    refine regv_skip (s1 := ?_) ?_ ?_ ?_
    rotate_left
    · simp [d]; done
    · simp [d]; rfl
    refine regv_skip (s1 := ?_) ?_ ?_ ?_
    rotate_left
    · simp [d]; done
    · simp [d]; rfl
    refine regv_skip (s1 := ?_) ?_ ?_ ?_
    rotate_left
    · simp [d]; done
    · simp [d]; rfl
    refine regv_skip (s1 := ?_) ?_ ?_ ?_
    rotate_left
    · simp [d]; done
    · simp [d]; rfl
    iterate 1
      refine regv_pure (s1 := ?_) rfl rfl ?_ ?_ ?_
      rotate_left
      · simp [d]; rfl
      · first | (simp [d] <;> omega) | (have hq := d; simp at hq; simp [d, hq]; done) | skip
    refine regv_nil ?_
    refine Wp.cond true (by first | (simp [d] <;> omega) | (have hq := d; simp at hq; simp [d, hq]; done)) (fun _ => ?_) (fun h0 => absurd h0 (by decide))
    refine Wp.reg_seq (own := fun _ => false) tt_ok ?_
    obtain ⟨dg, cp, h⟩ := obind h
    refine regv_call2 (s' := ?_) (p := ?_) (con_law16_alive cp) rfl rfl rfl rfl ?_ ?_ ?_ ?_ ?_ ?_
    rotate_left 2
    · simp [d]; rfl
    · first | exact .inl rfl | (refine .inl ?_; simp [d]; done) | (refine .inr ?_; dsimp only; repeat' first | exact All2.nil | refine All2.cons ?_ ?_) <;> first | exact AvLe.refl _ rfl | exact AvLe.nil _ | exact AvLe.znil _ | exact AvLe.list' (by simp [d]; done) (by simp [d]; done) | exact AvLe.eq (by simp [d]; done) rfl
    · first | (simp [d] <;> omega) | (have hq := d; simp at hq; simp [d, hq]; done) | skip
    · simp
    · simp [d]; rfl
    iterate 1
      refine regv_pure (s1 := ?_) rfl rfl ?_ ?_ ?_
      rotate_left
      · simp [d]; rfl
      · first | (simp [d] <;> omega) | (have hq := d; simp at hq; simp [d, hq]; done) | skip
    refine regv_nil ?_
    cases h
    refine Wp.ret (endQ_ret0 rfl ?_)
    repeat' first | exact All2.nil | refine All2.cons ?_ ?_ | refine AvLe.tups ?_ | refine AvLe.aggs ?_
    all_goals first
      | (exact AvLe.refl _ rfl)
      | (exact AvLe.nil _)
      | (exact AvLe.znil _)
      | (exact AvLe.ghost _ rfl)
      | (exact AvLe.zghost _ rfl)
      | (exact AvLe.sl' rfl (by simp [d]; done) (by simp [d]; done))
      | (exact AvLe.frz' rfl rfl rfl (by simp [d]; done) (by simp [d]; done) (by simp [d]; done))
      | (exact AvLe.list' (by simp [d]; done) (by simp [d]; done))
      | (exact AvLe.eq (by simp [d]; done) rfl)

end Go.Proofs.Ytgbgmijighbfbaa

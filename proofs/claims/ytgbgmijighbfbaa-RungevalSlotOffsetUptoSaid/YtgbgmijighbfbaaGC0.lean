/- Contracts: models of functions are right. No law is proved here. -/
import Derived.Test.YtgbgmijighbfbaaGMod
import Derived.Test.YtgbgmijighbfbaaTab
namespace Go.Proofs.Ytgbgmijighbfbaa
open Go.Av Go.G
attribute [local simp] runf guardA opf St.ev Go.Av.look St.setd constAV constAV0 opBin opLen intBin St.need lookT TT0 tab resA resOne resAll blt_dec ble_dec beq_dec isPure
attribute [local simp] opMakeSlice opCopy opIndexAddr opLoad opStore St.mem St.rows opUn calleeA toArgs toArg toArg0 toArgs0 shift shift0 shift1 splice cellsOf isFree ofCells TS.isAgg isCell strBin opConvert
attribute [local simp] opBuildSlice fillA opAppend eqC eqA cksB ckB St.newBox runI valKind withinB readsHp refsD refs noSl opFieldAddr opBuild placeOf Op.operands Call.operands opIndex opExtract opSlice opField partA
attribute [local simp] loA hiA lenA opMakeMap opLookup opMapUpdate keyOk findA_int findA_str putA_strB putA_strI putA_intB putA_intI mAV_length mAV_nil cA1 cA2 cA3 cA4
attribute [local simp] aL cI cB cS cL rw_map fz_rw fz_const dropRow_rw fz_append fz_set fz_copy fz_rows rowLen_rw rowsLen_nil rowsLen_cons rowsLen_append rowsLen_map rowsLen_take rowsLen_drop rowsLen_replicate take_map_len take_map_le drop_map_len take_drop_len chunks isScalar isScalar0
attribute [local congr] bind_congr1 map_congr1 cond_congr1
attribute [local simp] cApiAddr cApiContact cApiCoil cApiRung cApiState findA_ApiAddr putA_ApiAddr putA_ApiAddrB putA_ApiAddrI
set_option maxHeartbeats 4000000
set_option maxRecDepth 20000
set_option linter.unusedSimpArgs false
set_option linter.unusedVariables false

def slices_Index_bool_S1 (n : Nat) (s0 : List Bool) (v1 : Bool) (i : Int) : St :=
  { ch := [(0, aL cB s0), (1, .bool v1), (7, .int .i64 (s0.length : Int)), (8, .int .i64 i)], hp := [], base := 0, n := 19, cond := True }

theorem con_slices_Index_bool {n : Nat} {s0 : List Bool} {v1 : Bool} {r : Int} (h : slices_Index_bool n s0 v1 = some r) : Con Try.prog 38 [aL cB s0, .bool v1] (.int .i64 r) [] := by
  refine con_of (T := TT0) tt_ok Try.func38 (c := _) (by unfold Try.f38; rfl) Try.ntmps38 (rs := [.tmp 4]) (by rw [Try.results38]) (by unfold Try.f38; rfl) (by simp) ?_
  simp only [argsCh]
  dsimp only [slices_Index_bool] at h
  refine Wp.reg_seq (own := fun _ => false) tt_ok ?_
  iterate 1
    refine regv_pure (s1 := ?_) rfl rfl ?_ ?_ ?_
    rotate_left
    · simp []; rfl
    · first | (simp [] <;> omega) | skip
  refine regv_nil ?_
  refine Wp.seq ?_
  refine Wp.reg_seq (own := fun _ => false) tt_ok ?_
  iterate 3
    refine regv_pure (s1 := ?_) rfl rfl ?_ ?_ ?_
    rotate_left
    · simp []; rfl
    · first | (simp [] <;> omega) | skip
  refine regv_nil ?_
  refine Wp.block ?_
  refine Wp.loopF (α := Int) (fun x => slices_Index_bool_S1 n s0 v1 x) (fun m x => slices_Index_bool_L1 s0 v1 m x = some r) (fun _ h => by cases h) ?_ n 0 h ?_
  rotate_left
  · simp only [slices_Index_bool_S1]
    refine Reloc.mk2 [] rfl rfl rfl (by decide) ?_ ?_
    · repeat' first | exact objsLe_nil | refine objsLe_cons ?_ ?_
      all_goals first
        | exact trivial
        | (refine ObjLe.var' rfl rfl ?_ rfl
           repeat' first | exact All2.nil | refine All2.cons ?_ ?_
           all_goals first | (exact AvLe.refl _ rfl) | (exact AvLe.sl _ _ _ _ rfl) | (exact AvLe.hptr _ _ _ _ rfl) | (exact AvLe.mp _ _ rfl) | (exact AvLe.nil _) | (exact AvLe.znil _) | (exact AvLe.ghost _ rfl) | (exact AvLe.zghost _ rfl) | (exact AvLe.sl' rfl (by simp []; done) (by first | (simp [] <;> omega) | omega)) | (exact AvLe.frz2 rfl (by simp) rfl (by simp []; done) (by simp []; done) (by simp []; done)) | (exact AvLe.list' (by simp []; done) (by simp []; done)) | (exact AvLe.eq (by simp []; done) rfl))
        | (exact ObjLe.map' rfl rfl)
        | (exact ObjLe.map2 rfl rfl (by first | (simp []; done) | (simp []; rfl)))
        | (exact ObjLe.slot' rfl)
        | (exact ObjLe.ghost' rfl (by decide))
        | (exact ObjLe.arr' rfl rfl (by first | (simp [] <;> omega)) (fun _ _ => by first | rfl | (simp []; done)))
        | ((simp []; done))
    · repeat' first | exact chLe_nil | refine chLe_cons ?_ ?_ | exact AvLe.refl _ rfl | refine AvLe.aggs ?_ | exact All2.nil | refine All2.cons ?_ ?_
      all_goals first
        | (exact AvLe.refl _ rfl)
        | (exact AvLe.sl _ _ _ _ rfl)
        | (exact AvLe.hptr _ _ _ _ rfl)
        | (exact AvLe.mp _ _ rfl)
        | (exact AvLe.nil _)
        | (exact AvLe.znil _)
        | (exact AvLe.ghost _ rfl)
        | (exact AvLe.zghost _ rfl)
        | (exact AvLe.sl' rfl (by simp []; done) (by first | (simp [] <;> omega) | omega))
        | (exact AvLe.frz2 rfl (by simp) rfl (by simp []; done) (by simp []; done) (by simp []; done))
        | (exact AvLe.list' (by simp []; done) (by simp []; done))
        | (exact AvLe.eq (by simp []; done) rfl)
  rintro rec_n1 i h
  simp only [slices_Index_bool_S1]
  dsimp only [slices_Index_bool_L1] at h
  refine Wp.reg_seq (own := fun _ => false) tt_ok ?_
  iterate 1
    refine regv_pure (s1 := ?_) rfl rfl ?_ ?_ ?_
    rotate_left
    · simp []; rfl
    · first | (simp [] <;> omega) | skip
  refine regv_nil ?_
  refine Wp.seq ?_
  refine (Decidable.em (i < (s0.length : Int))).symm.elim (fun a => ?_) (fun a => ?_)
  · rw [if_neg (by simpa using a)] at h
    refine Wp.cond false (by first | (simp [a] <;> omega) | (have hq := a; simp at hq; simp [a, hq]; done)) (fun h0 => absurd h0 (by decide)) (fun _ => ?_)
    refine Wp.exit ?_
    show Wp _ _ _ _
    refine Wp.reg_seq (own := fun _ => false) tt_ok ?_
    iterate 1
      refine regv_pure (s1 := ?_) rfl rfl ?_ ?_ ?_
      rotate_left
      · simp [a]; rfl
      · first | (simp [a] <;> omega) | (have hq := a; simp at hq; simp [a, hq]; done) | skip
    refine regv_nil ?_
    cases h
    refine Wp.ret (endQ_ret0 rfl ?_)
    repeat' first | exact All2.nil | refine All2.cons ?_ ?_ | refine AvLe.tups ?_ | refine AvLe.aggs ?_
    all_goals first
      | (exact AvLe.refl _ rfl)
      | (exact AvLe.nil _)
      | (exact AvLe.znil _)
      | (exact AvLe.ghost _ rfl)
      | (exact AvLe.zghost _ rfl)
      | (exact AvLe.sl' rfl (by simp [a]; done) (by simp [a]; done))
      | (exact AvLe.frz' rfl rfl rfl (by simp [a]; done) (by simp [a]; done) (by simp [a]; done))
      | (exact AvLe.list' (by simp [a]; done) (by simp [a]; done))
      | (exact AvLe.eq (by simp [a]; done) rfl)
  · rw [if_pos (decide_eq_true a)] at h
    refine Wp.cond true (by first | (simp [a] <;> omega) | (have hq := a; simp at hq; simp [a, hq]; done)) (fun _ => ?_) (fun h0 => absurd h0 (by decide))
    refine Wp.skip ?_
    show Wp _ _ _ _
    refine Wp.seq ?_
    refine Wp.block ?_
    refine Wp.reg_seq (own := fun _ => false) tt_ok ?_
    iterate 2
      refine regv_pure (s1 := ?_) rfl rfl ?_ ?_ ?_
      rotate_left
      · simp [a]; rfl
      · first | (simp [a] <;> omega) | (have hq := a; simp at hq; simp [a, hq]; done) | skip
    refine regv_nil ?_
    refine Wp.reg_seq (own := fun _ => false) tt_ok ?_
    iterate 3
      refine regv_pure (s1 := ?_) rfl rfl ?_ ?_ ?_
      rotate_left
      · simp [a]; rfl
      · first | (simp [a] <;> omega) | (have hq := a; simp at hq; simp [a, hq]; done) | skip
    obtain ⟨k, j, h⟩ := obind h
    obtain ⟨f, d, b⟩ := atI_some j
    try simp [a] at d
    try simp only [Int.toNat_natCast, Int.reduceToNat, Nat.zero_add, Nat.add_zero] at b
    have e := getElem_of b
    iterate 3
      refine regv_pure (s1 := ?_) rfl rfl ?_ ?_ ?_
      rotate_left
      · simp [a, f, d, b, e]; rfl
      · first | (simp [a, f, d, b, e] <;> omega) | (have hq := e; simp at hq; simp [a, f, d, b, e, hq]; done) | skip
    refine regv_nil ?_
    cases g : (v1 == k)
    · rw [g, if_neg (by simp)] at h
      refine Wp.cond false (by first | (simp [a, f, d, b, e, g] <;> omega) | (have hq := g; simp at hq; simp [a, f, d, b, e, g, hq]; done)) (fun h0 => absurd h0 (by decide)) (fun _ => ?_)
      refine Wp.skip ?_
      show Wp _ _ _ _
      refine Wp.reg (own := fun _ => false) tt_ok ?_
      iterate 2
        refine regv_pure (s1 := ?_) rfl rfl ?_ ?_ ?_
        rotate_left
        · simp [a, f, d, b, e, g]; rfl
        · first | (simp [a, f, d, b, e, g] <;> omega) | (have hq := g; simp at hq; simp [a, f, d, b, e, g, hq]; done) | skip
      refine regv_nil ?_
      refine next_mk (IntKind.i64.wrap (i + 1)) h ?_
      refine Reloc.mk2 [] rfl rfl rfl (by decide) ?_ ?_
      · repeat' first | exact objsLe_nil | refine objsLe_cons ?_ ?_
        all_goals first
          | exact trivial
          | (refine ObjLe.var' rfl rfl ?_ rfl
             repeat' first | exact All2.nil | refine All2.cons ?_ ?_
             all_goals first | (exact AvLe.refl _ rfl) | (exact AvLe.sl _ _ _ _ rfl) | (exact AvLe.hptr _ _ _ _ rfl) | (exact AvLe.mp _ _ rfl) | (exact AvLe.nil _) | (exact AvLe.znil _) | (exact AvLe.ghost _ rfl) | (exact AvLe.zghost _ rfl) | (exact AvLe.sl' rfl (by simp [a, f, d, b, e, g]; done) (by first | (simp [a, f, d, b, e, g] <;> omega) | omega)) | (exact AvLe.frz2 rfl (by simp) rfl (by simp [a, f, d, b, e, g]; done) (by simp [a, f, d, b, e, g]; done) (by simp [a, f, d, b, e, g]; done)) | (exact AvLe.list' (by simp [a, f, d, b, e, g]; done) (by simp [a, f, d, b, e, g]; done)) | (exact AvLe.eq (by simp [a, f, d, b, e, g]; done) rfl))
          | (exact ObjLe.map' rfl rfl)
          | (exact ObjLe.map2 rfl rfl (by first | (simp [a, f, d, b, e, g]; done) | (simp [a, f, d, b, e, g]; rfl)))
          | (exact ObjLe.slot' rfl)
          | (exact ObjLe.ghost' rfl (by decide))
          | (exact ObjLe.arr' rfl rfl (by first | (simp [a, f, d, b, e, g] <;> omega)) (fun _ _ => by first | rfl | (simp [a, f, d, b, e, g]; done)))
          | ((simp [a, f, d, b, e, g]; done))
      · repeat' first | exact chLe_nil | refine chLe_cons ?_ ?_ | exact AvLe.refl _ rfl | refine AvLe.aggs ?_ | exact All2.nil | refine All2.cons ?_ ?_
        all_goals first
          | (exact AvLe.refl _ rfl)
          | (exact AvLe.sl _ _ _ _ rfl)
          | (exact AvLe.hptr _ _ _ _ rfl)
          | (exact AvLe.mp _ _ rfl)
          | (exact AvLe.nil _)
          | (exact AvLe.znil _)
          | (exact AvLe.ghost _ rfl)
          | (exact AvLe.zghost _ rfl)
          | (exact AvLe.sl' rfl (by simp [a, f, d, b, e, g]; done) (by first | (simp [a, f, d, b, e, g] <;> omega) | omega))
          | (exact AvLe.frz2 rfl (by simp) rfl (by simp [a, f, d, b, e, g]; done) (by simp [a, f, d, b, e, g]; done) (by simp [a, f, d, b, e, g]; done))
          | (exact AvLe.list' (by simp [a, f, d, b, e, g]; done) (by simp [a, f, d, b, e, g]; done))
          | (exact AvLe.eq (by simp [a, f, d, b, e, g]; done) rfl)
    · rw [g, if_pos rfl] at h
      refine Wp.cond true (by first | (simp [a, f, d, b, e, g] <;> omega) | (have hq := g; simp at hq; simp [a, f, d, b, e, g, hq]; done)) (fun _ => ?_) (fun h0 => absurd h0 (by decide))
      refine Wp.reg_seq (own := fun _ => false) tt_ok ?_
      iterate 2
        refine regv_pure (s1 := ?_) rfl rfl ?_ ?_ ?_
        rotate_left
        · simp [a, f, d, b, e, g]; rfl
        · first | (simp [a, f, d, b, e, g] <;> omega) | (have hq := g; simp at hq; simp [a, f, d, b, e, g, hq]; done) | skip
      refine regv_nil ?_
      cases h
      refine Wp.ret (endQ_ret0 rfl ?_)
      repeat' first | exact All2.nil | refine All2.cons ?_ ?_ | refine AvLe.tups ?_ | refine AvLe.aggs ?_
      all_goals first
        | (exact AvLe.refl _ rfl)
        | (exact AvLe.nil _)
        | (exact AvLe.znil _)
        | (exact AvLe.ghost _ rfl)
        | (exact AvLe.zghost _ rfl)
        | (exact AvLe.sl' rfl (by simp [a, f, d, b, e, g]; done) (by simp [a, f, d, b, e, g]; done))
        | (exact AvLe.frz' rfl rfl rfl (by simp [a, f, d, b, e, g]; done) (by simp [a, f, d, b, e, g]; done) (by simp [a, f, d, b, e, g]; done))
        | (exact AvLe.list' (by simp [a, f, d, b, e, g]; done) (by simp [a, f, d, b, e, g]; done))
        | (exact AvLe.eq (by simp [a, f, d, b, e, g]; done) rfl)

theorem con_slices_Contains_bool {n : Nat} {s0 : List Bool} {v1 : Bool} {r : Bool} (h : slices_Contains_bool n s0 v1 = some r) : Con Try.prog 27 [aL cB s0, .bool v1] (.bool r) [] := by
  refine con_of (T := TT0) tt_ok Try.func27 (c := _) (by unfold Try.f27; rfl) Try.ntmps27 (rs := [.tmp 4]) (by rw [Try.results27]) (by unfold Try.f27; rfl) (by simp) ?_
  simp only [argsCh]
  dsimp only [slices_Contains_bool] at h
  refine Wp.reg_seq (own := fun _ => false) tt_ok ?_
  iterate 1
    refine regv_pure (s1 := ?_) rfl rfl ?_ ?_ ?_
    rotate_left
    · simp []; rfl
    · first | (simp [] <;> omega) | skip
  refine regv_nil ?_
  refine Wp.reg_seq (own := fun _ => false) tt_ok ?_
  iterate 2
    refine regv_pure (s1 := ?_) rfl rfl ?_ ?_ ?_
    rotate_left
    · simp []; rfl
    · first | (simp [] <;> omega) | skip
  obtain ⟨b, a, h⟩ := obind h
  refine regv_call2 (s' := ?_) (p := ?_) (con_slices_Index_bool a) rfl rfl rfl rfl ?_ ?_ ?_ ?_ ?_ ?_
  rotate_left 2
  · simp []; rfl
  · first | exact .inl rfl | (refine .inl ?_; simp []; done) | (refine .inr ?_; dsimp only; repeat' first | exact All2.nil | refine All2.cons ?_ ?_ | exact AvLe.refl _ rfl | refine AvLe.aggs ?_) <;> first | exact AvLe.refl _ rfl | exact AvLe.nil _ | exact AvLe.znil _ | exact AvLe.list' (by first | (simp [] <;> omega)) (by simp []; done) | exact AvLe.eq (by simp []; done) rfl
  · first | (simp [] <;> omega) | skip
  · simp
  · simp []; rfl
  iterate 2
    refine regv_pure (s1 := ?_) rfl rfl ?_ ?_ ?_
    rotate_left
    · simp []; rfl
    · first | (simp [] <;> omega) | skip
  refine regv_nil ?_
  cases h
  refine Wp.ret (endQ_ret0 rfl ?_)
  repeat' first | exact All2.nil | refine All2.cons ?_ ?_ | refine AvLe.tups ?_ | refine AvLe.aggs ?_
  all_goals first
    | (exact AvLe.refl _ rfl)
    | (exact AvLe.nil _)
    | (exact AvLe.znil _)
    | (exact AvLe.ghost _ rfl)
    | (exact AvLe.zghost _ rfl)
    | (exact AvLe.sl' rfl (by simp []; done) (by simp []; done))
    | (exact AvLe.frz' rfl rfl rfl (by simp []; done) (by simp []; done) (by simp []; done))
    | (exact AvLe.list' (by simp []; done) (by simp []; done))
    | (exact AvLe.eq (by simp []; done) rfl)

theorem con_rungeval_sees {n : Nat} {c0 : ApiContact} {r : Bool} (h : rungeval_sees n c0 = some r) : Con Try.prog 34 [.agg (cApiContact c0)] (.bool r) [] := by
  refine con_of (T := TT0) tt_ok Try.func34 (c := _) (by unfold Try.f34; rfl) Try.ntmps34 (rs := [.tmp 2]) (by rw [Try.results34]) (by unfold Try.f34; rfl) (by simp) ?_
  simp only [argsCh]
  dsimp only [rungeval_sees] at h
  refine Wp.reg_seq (own := fun _ => false) tt_ok ?_
  iterate 2
    refine regv_pure (s1 := ?_) rfl rfl ?_ ?_ ?_
    rotate_left
    · simp []; rfl
    · first | (simp [] <;> omega) | skip
  refine regv_nil ?_
  refine Wp.reg_seq (own := fun _ => false) tt_ok ?_
  iterate 4
    refine regv_pure (s1 := ?_) rfl rfl ?_ ?_ ?_
    rotate_left
    · simp []; rfl
    · first | (simp [] <;> omega) | skip
  cases a : (c0.Kind == 2)
  · rw [a, if_neg (by simp)] at h
    refine regv_pure (s1 := ?_) rfl ?_ ?_ ?_ ?_
    rotate_left
    · simp [a]; done
    · simp [a]; rfl
    · first | (simp [a] <;> omega) | (have hq := a; simp at hq; simp [a, hq]; done) | skip
    refine regv_pure (s1 := ?_) rfl ?_ ?_ ?_ ?_
    rotate_left
    · simp [a]; done
    · simp [a]; rfl
    · first | (simp [a] <;> omega) | (have hq := a; simp at hq; simp [a, hq]; done) | skip
    refine regv_pure (s1 := ?_) rfl ?_ ?_ ?_ ?_
    rotate_left
    · simp [a]; done
    · simp [a]; rfl
    · first | (simp [a] <;> omega) | (have hq := a; simp at hq; simp [a, hq]; done) | skip
    iterate 2
      refine regv_pure (s1 := ?_) rfl rfl ?_ ?_ ?_
      rotate_left
      · simp [a]; rfl
      · first | (simp [a] <;> omega) | (have hq := a; simp at hq; simp [a, hq]; done) | skip
    refine regv_nil ?_
    cases h
    refine Wp.ret (endQ_ret0 rfl ?_)
    repeat' first | exact All2.nil | refine All2.cons ?_ ?_ | refine AvLe.tups ?_ | refine AvLe.aggs ?_
    all_goals first
      | (exact AvLe.refl _ rfl)
      | (exact AvLe.nil _)
      | (exact AvLe.znil _)
      | (exact AvLe.ghost _ rfl)
      | (exact AvLe.zghost _ rfl)
      | (exact AvLe.sl' rfl (by simp [a]; done) (by simp [a]; done))
      | (exact AvLe.frz' rfl rfl rfl (by simp [a]; done) (by simp [a]; done) (by simp [a]; done))
      | (exact AvLe.list' (by simp [a]; done) (by simp [a]; done))
      | (exact AvLe.eq (by simp [a]; done) rfl)
  · rw [a, if_pos rfl] at h
    refine regv_skip (s1 := ?_) ?_ ?_ ?_
    rotate_left
    · simp [a]; done
    · simp [a]; rfl
    refine regv_skip (s1 := ?_) ?_ ?_ ?_
    rotate_left
    · simp [a]; done
    · simp [a]; rfl
    refine regv_skip (s1 := ?_) ?_ ?_ ?_
    rotate_left
    · simp [a]; done
    · simp [a]; rfl
    iterate 2
      refine regv_pure (s1 := ?_) rfl rfl ?_ ?_ ?_
      rotate_left
      · simp [a]; rfl
      · first | (simp [a] <;> omega) | (have hq := a; simp at hq; simp [a, hq]; done) | skip
    refine regv_nil ?_
    cases h
    refine Wp.ret (endQ_ret0 rfl ?_)
    repeat' first | exact All2.nil | refine All2.cons ?_ ?_ | refine AvLe.tups ?_ | refine AvLe.aggs ?_
    all_goals first
      | (exact AvLe.refl _ rfl)
      | (exact AvLe.nil _)
      | (exact AvLe.znil _)
      | (exact AvLe.ghost _ rfl)
      | (exact AvLe.zghost _ rfl)
      | (exact AvLe.sl' rfl (by simp [a]; done) (by simp [a]; done))
      | (exact AvLe.frz' rfl rfl rfl (by simp [a]; done) (by simp [a]; done) (by simp [a]; done))
      | (exact AvLe.list' (by simp [a]; done) (by simp [a]; done))
      | (exact AvLe.eq (by simp [a]; done) rfl)

def rungeval_EdgeCount_S1 (n : Nat) (r_0 : ApiRung) (j : Int) (i : Int) : St :=
  { ch := [(3, .int .i64 j), (7, aL cApiContact r_0.Contacts), (8, .int .i64 (r_0.Contacts.length : Int)), (9, .int .i64 i)], hp := [], base := 0, n := 19, cond := True }

theorem con_rungeval_EdgeCount {n : Nat} {r_0 : ApiRung} {r : Int} (h : rungeval_EdgeCount n r_0 = some r) : Con Try.prog 25 [.agg (cApiRung r_0)] (.int .i64 r) [] := by
  refine con_of (T := TT0) tt_ok Try.func25 (c := _) (by unfold Try.f25; rfl) Try.ntmps25 (rs := [.tmp 2]) (by rw [Try.results25]) (by unfold Try.f25; rfl) (by simp) ?_
  simp only [argsCh]
  dsimp only [rungeval_EdgeCount] at h
  refine Wp.reg_seq (own := fun _ => false) tt_ok ?_
  iterate 2
    refine regv_pure (s1 := ?_) rfl rfl ?_ ?_ ?_
    rotate_left
    · simp []; rfl
    · first | (simp [] <;> omega) | skip
  refine regv_nil ?_
  refine Wp.reg_seq (own := fun _ => false) tt_ok ?_
  iterate 1
    refine regv_pure (s1 := ?_) rfl rfl ?_ ?_ ?_
    rotate_left
    · simp []; rfl
    · first | (simp [] <;> omega) | skip
  refine regv_nil ?_
  refine Wp.seq ?_
  refine Wp.reg_seq (own := fun _ => false) tt_ok ?_
  iterate 4
    refine regv_pure (s1 := ?_) rfl rfl ?_ ?_ ?_
    rotate_left
    · simp []; rfl
    · first | (simp [] <;> omega) | skip
  refine regv_nil ?_
  refine Wp.block ?_
  refine Wp.loopF (α := Int × Int) (fun x => rungeval_EdgeCount_S1 n r_0 x.1 x.2) (fun m x => rungeval_EdgeCount_L1 n r_0 m x.1 x.2 = some r) (fun _ h => by cases h) ?_ n (0, 0) h ?_
  rotate_left
  · simp only [rungeval_EdgeCount_S1]
    refine Reloc.mk2 [] rfl rfl rfl (by decide) ?_ ?_
    · repeat' first | exact objsLe_nil | refine objsLe_cons ?_ ?_
      all_goals first
        | exact trivial
        | (refine ObjLe.var' rfl rfl ?_ rfl
           repeat' first | exact All2.nil | refine All2.cons ?_ ?_
           all_goals first | (exact AvLe.refl _ rfl) | (exact AvLe.sl _ _ _ _ rfl) | (exact AvLe.hptr _ _ _ _ rfl) | (exact AvLe.mp _ _ rfl) | (exact AvLe.nil _) | (exact AvLe.znil _) | (exact AvLe.ghost _ rfl) | (exact AvLe.zghost _ rfl) | (exact AvLe.sl' rfl (by simp []; done) (by first | (simp [] <;> omega) | omega)) | (exact AvLe.frz2 rfl (by simp) rfl (by simp []; done) (by simp []; done) (by simp []; done)) | (exact AvLe.list' (by simp []; done) (by simp []; done)) | (exact AvLe.eq (by simp []; done) rfl))
        | (exact ObjLe.map' rfl rfl)
        | (exact ObjLe.map2 rfl rfl (by first | (simp []; done) | (simp []; rfl)))
        | (exact ObjLe.slot' rfl)
        | (exact ObjLe.ghost' rfl (by decide))
        | (exact ObjLe.arr' rfl rfl (by first | (simp [] <;> omega)) (fun _ _ => by first | rfl | (simp []; done)))
        | ((simp []; done))
    · repeat' first | exact chLe_nil | refine chLe_cons ?_ ?_ | exact AvLe.refl _ rfl | refine AvLe.aggs ?_ | exact All2.nil | refine All2.cons ?_ ?_
      all_goals first
        | (exact AvLe.refl _ rfl)
        | (exact AvLe.sl _ _ _ _ rfl)
        | (exact AvLe.hptr _ _ _ _ rfl)
        | (exact AvLe.mp _ _ rfl)
        | (exact AvLe.nil _)
        | (exact AvLe.znil _)
        | (exact AvLe.ghost _ rfl)
        | (exact AvLe.zghost _ rfl)
        | (exact AvLe.sl' rfl (by simp []; done) (by first | (simp [] <;> omega) | omega))
        | (exact AvLe.frz2 rfl (by simp) rfl (by simp []; done) (by simp []; done) (by simp []; done))
        | (exact AvLe.list' (by simp []; done) (by simp []; done))
        | (exact AvLe.eq (by simp []; done) rfl)
  rintro rec_n1 ⟨j, i⟩ h
  simp only [rungeval_EdgeCount_S1]
  dsimp only [rungeval_EdgeCount_L1] at h
  refine Wp.reg_seq (own := fun _ => false) tt_ok ?_
  iterate 1
    refine regv_pure (s1 := ?_) rfl rfl ?_ ?_ ?_
    rotate_left
    · simp []; rfl
    · first | (simp [] <;> omega) | skip
  refine regv_nil ?_
  refine Wp.seq ?_
  refine (Decidable.em (i < (r_0.Contacts.length : Int))).symm.elim (fun a => ?_) (fun a => ?_)
  · rw [if_neg (by simpa using a)] at h
    refine Wp.cond false (by first | (simp [a] <;> omega) | (have hq := a; simp at hq; simp [a, hq]; done)) (fun h0 => absurd h0 (by decide)) (fun _ => ?_)
    refine Wp.exit ?_
    show Wp _ _ _ _
    refine Wp.reg_seq (own := fun _ => false) tt_ok ?_
    iterate 2
      refine regv_pure (s1 := ?_) rfl rfl ?_ ?_ ?_
      rotate_left
      · simp [a]; rfl
      · first | (simp [a] <;> omega) | (have hq := a; simp at hq; simp [a, hq]; done) | skip
    refine regv_nil ?_
    cases h
    refine Wp.ret (endQ_ret0 rfl ?_)
    repeat' first | exact All2.nil | refine All2.cons ?_ ?_ | refine AvLe.tups ?_ | refine AvLe.aggs ?_
    all_goals first
      | (exact AvLe.refl _ rfl)
      | (exact AvLe.nil _)
      | (exact AvLe.znil _)
      | (exact AvLe.ghost _ rfl)
      | (exact AvLe.zghost _ rfl)
      | (exact AvLe.sl' rfl (by simp [a]; done) (by simp [a]; done))
      | (exact AvLe.frz' rfl rfl rfl (by simp [a]; done) (by simp [a]; done) (by simp [a]; done))
      | (exact AvLe.list' (by simp [a]; done) (by simp [a]; done))
      | (exact AvLe.eq (by simp [a]; done) rfl)
  · rw [if_pos (decide_eq_true a)] at h
    refine Wp.cond true (by first | (simp [a] <;> omega) | (have hq := a; simp at hq; simp [a, hq]; done)) (fun _ => ?_) (fun h0 => absurd h0 (by decide))
    refine Wp.skip ?_
    show Wp _ _ _ _
    refine Wp.seq ?_
    refine Wp.block ?_
    refine Wp.reg_seq (own := fun _ => false) tt_ok ?_
    obtain ⟨u, k, h⟩ := obind h
    obtain ⟨f, e, d⟩ := atI_some k
    try simp [a] at e
    try simp only [Int.toNat_natCast, Int.reduceToNat, Nat.zero_add, Nat.add_zero] at d
    have b := getElem_of d
    iterate 4
      refine regv_pure (s1 := ?_) rfl rfl ?_ ?_ ?_
      rotate_left
      · simp [a, f, e, d, b]; rfl
      · first | (simp [a, f, e, d, b] <;> omega) | (have hq := b; simp at hq; simp [a, f, e, d, b, hq]; done) | skip
    refine regv_nil ?_
    refine Wp.reg_seq (own := fun _ => false) tt_ok ?_
    iterate 1
      refine regv_pure (s1 := ?_) rfl rfl ?_ ?_ ?_
      rotate_left
      · simp [a, f, e, d, b]; rfl
      · first | (simp [a, f, e, d, b] <;> omega) | (have hq := b; simp at hq; simp [a, f, e, d, b, hq]; done) | skip
    obtain ⟨q, o, h⟩ := obind h
    refine regv_call2 (s' := ?_) (p := ?_) (con_rungeval_sees o) rfl rfl rfl rfl ?_ ?_ ?_ ?_ ?_ ?_
    rotate_left 2
    · simp [a, f, e, d, b]; rfl
    · first | exact .inl rfl | (refine .inl ?_; simp [a, f, e, d, b]; done) | (refine .inr ?_; dsimp only; repeat' first | exact All2.nil | refine All2.cons ?_ ?_ | exact AvLe.refl _ rfl | refine AvLe.aggs ?_) <;> first | exact AvLe.refl _ rfl | exact AvLe.nil _ | exact AvLe.znil _ | exact AvLe.list' (by first | (simp [a, f, e, d, b] <;> omega)) (by simp [a, f, e, d, b]; done) | exact AvLe.eq (by simp [a, f, e, d, b]; done) rfl
    · first | (simp [a, f, e, d, b] <;> omega) | (have hq := b; simp at hq; simp [a, f, e, d, b, hq]; done) | skip
    · simp
    · simp [a, f, e, d, b]; rfl
    refine regv_nil ?_
    refine (Bool.eq_false_or_eq_true q).symm.elim (fun g => ?_) (fun g => ?_)
    · rw [if_neg (by rw [g]; simp)] at h
      refine Wp.cond false (by first | (simp [a, f, e, d, b, g] <;> omega) | (have hq := g; simp at hq; simp [a, f, e, d, b, g, hq]; done)) (fun h0 => absurd h0 (by decide)) (fun _ => ?_)
      refine Wp.skip ?_
      show Wp _ _ _ _
      refine Wp.reg (own := fun _ => false) tt_ok ?_
      iterate 2
        refine regv_pure (s1 := ?_) rfl rfl ?_ ?_ ?_
        rotate_left
        · simp [a, f, e, d, b, g]; rfl
        · first | (simp [a, f, e, d, b, g] <;> omega) | (have hq := g; simp at hq; simp [a, f, e, d, b, g, hq]; done) | skip
      refine regv_nil ?_
      refine next_mk (j, (IntKind.i64.wrap (i + 1))) h ?_
      refine Reloc.mk2 [] rfl rfl rfl (by decide) ?_ ?_
      · repeat' first | exact objsLe_nil | refine objsLe_cons ?_ ?_
        all_goals first
          | exact trivial
          | (refine ObjLe.var' rfl rfl ?_ rfl
             repeat' first | exact All2.nil | refine All2.cons ?_ ?_
             all_goals first | (exact AvLe.refl _ rfl) | (exact AvLe.sl _ _ _ _ rfl) | (exact AvLe.hptr _ _ _ _ rfl) | (exact AvLe.mp _ _ rfl) | (exact AvLe.nil _) | (exact AvLe.znil _) | (exact AvLe.ghost _ rfl) | (exact AvLe.zghost _ rfl) | (exact AvLe.sl' rfl (by simp [a, f, e, d, b, g]; done) (by first | (simp [a, f, e, d, b, g] <;> omega) | omega)) | (exact AvLe.frz2 rfl (by simp) rfl (by simp [a, f, e, d, b, g]; done) (by simp [a, f, e, d, b, g]; done) (by simp [a, f, e, d, b, g]; done)) | (exact AvLe.list' (by simp [a, f, e, d, b, g]; done) (by simp [a, f, e, d, b, g]; done)) | (exact AvLe.eq (by simp [a, f, e, d, b, g]; done) rfl))
          | (exact ObjLe.map' rfl rfl)
          | (exact ObjLe.map2 rfl rfl (by first | (simp [a, f, e, d, b, g]; done) | (simp [a, f, e, d, b, g]; rfl)))
          | (exact ObjLe.slot' rfl)
          | (exact ObjLe.ghost' rfl (by decide))
          | (exact ObjLe.arr' rfl rfl (by first | (simp [a, f, e, d, b, g] <;> omega)) (fun _ _ => by first | rfl | (simp [a, f, e, d, b, g]; done)))
          | ((simp [a, f, e, d, b, g]; done))
      · repeat' first | exact chLe_nil | refine chLe_cons ?_ ?_ | exact AvLe.refl _ rfl | refine AvLe.aggs ?_ | exact All2.nil | refine All2.cons ?_ ?_
        all_goals first
          | (exact AvLe.refl _ rfl)
          | (exact AvLe.sl _ _ _ _ rfl)
          | (exact AvLe.hptr _ _ _ _ rfl)
          | (exact AvLe.mp _ _ rfl)
          | (exact AvLe.nil _)
          | (exact AvLe.znil _)
          | (exact AvLe.ghost _ rfl)
          | (exact AvLe.zghost _ rfl)
          | (exact AvLe.sl' rfl (by simp [a, f, e, d, b, g]; done) (by first | (simp [a, f, e, d, b, g] <;> omega) | omega))
          | (exact AvLe.frz2 rfl (by simp) rfl (by simp [a, f, e, d, b, g]; done) (by simp [a, f, e, d, b, g]; done) (by simp [a, f, e, d, b, g]; done))
          | (exact AvLe.list' (by simp [a, f, e, d, b, g]; done) (by simp [a, f, e, d, b, g]; done))
          | (exact AvLe.eq (by simp [a, f, e, d, b, g]; done) rfl)
    · rw [if_pos g] at h
      refine Wp.cond true (by first | (simp [a, f, e, d, b, g] <;> omega) | (have hq := g; simp at hq; simp [a, f, e, d, b, g, hq]; done)) (fun _ => ?_) (fun h0 => absurd h0 (by decide))
      refine Wp.reg (own := fun _ => false) tt_ok ?_
      iterate 3
        refine regv_pure (s1 := ?_) rfl rfl ?_ ?_ ?_
        rotate_left
        · simp [a, f, e, d, b, g]; rfl
        · first | (simp [a, f, e, d, b, g] <;> omega) | (have hq := g; simp at hq; simp [a, f, e, d, b, g, hq]; done) | skip
      refine regv_nil ?_
      show Wp _ _ _ _
      refine Wp.reg (own := fun _ => false) tt_ok ?_
      iterate 2
        refine regv_pure (s1 := ?_) rfl rfl ?_ ?_ ?_
        rotate_left
        · simp [a, f, e, d, b, g]; rfl
        · first | (simp [a, f, e, d, b, g] <;> omega) | (have hq := g; simp at hq; simp [a, f, e, d, b, g, hq]; done) | skip
      refine regv_nil ?_
      refine next_mk ((IntKind.i64.wrap (j + 1)), (IntKind.i64.wrap (i + 1))) h ?_
      refine Reloc.mk2 [] rfl rfl rfl (by decide) ?_ ?_
      · repeat' first | exact objsLe_nil | refine objsLe_cons ?_ ?_
        all_goals first
          | exact trivial
          | (refine ObjLe.var' rfl rfl ?_ rfl
             repeat' first | exact All2.nil | refine All2.cons ?_ ?_
             all_goals first | (exact AvLe.refl _ rfl) | (exact AvLe.sl _ _ _ _ rfl) | (exact AvLe.hptr _ _ _ _ rfl) | (exact AvLe.mp _ _ rfl) | (exact AvLe.nil _) | (exact AvLe.znil _) | (exact AvLe.ghost _ rfl) | (exact AvLe.zghost _ rfl) | (exact AvLe.sl' rfl (by simp [a, f, e, d, b, g]; done) (by first | (simp [a, f, e, d, b, g] <;> omega) | omega)) | (exact AvLe.frz2 rfl (by simp) rfl (by simp [a, f, e, d, b, g]; done) (by simp [a, f, e, d, b, g]; done) (by simp [a, f, e, d, b, g]; done)) | (exact AvLe.list' (by simp [a, f, e, d, b, g]; done) (by simp [a, f, e, d, b, g]; done)) | (exact AvLe.eq (by simp [a, f, e, d, b, g]; done) rfl))
          | (exact ObjLe.map' rfl rfl)
          | (exact ObjLe.map2 rfl rfl (by first | (simp [a, f, e, d, b, g]; done) | (simp [a, f, e, d, b, g]; rfl)))
          | (exact ObjLe.slot' rfl)
          | (exact ObjLe.ghost' rfl (by decide))
          | (exact ObjLe.arr' rfl rfl (by first | (simp [a, f, e, d, b, g] <;> omega)) (fun _ _ => by first | rfl | (simp [a, f, e, d, b, g]; done)))
          | ((simp [a, f, e, d, b, g]; done))
      · repeat' first | exact chLe_nil | refine chLe_cons ?_ ?_ | exact AvLe.refl _ rfl | refine AvLe.aggs ?_ | exact All2.nil | refine All2.cons ?_ ?_
        all_goals first
          | (exact AvLe.refl _ rfl)
          | (exact AvLe.sl _ _ _ _ rfl)
          | (exact AvLe.hptr _ _ _ _ rfl)
          | (exact AvLe.mp _ _ rfl)
          | (exact AvLe.nil _)
          | (exact AvLe.znil _)
          | (exact AvLe.ghost _ rfl)
          | (exact AvLe.zghost _ rfl)
          | (exact AvLe.sl' rfl (by simp [a, f, e, d, b, g]; done) (by first | (simp [a, f, e, d, b, g] <;> omega) | omega))
          | (exact AvLe.frz2 rfl (by simp) rfl (by simp [a, f, e, d, b, g]; done) (by simp [a, f, e, d, b, g]; done) (by simp [a, f, e, d, b, g]; done))
          | (exact AvLe.list' (by simp [a, f, e, d, b, g]; done) (by simp [a, f, e, d, b, g]; done))
          | (exact AvLe.eq (by simp [a, f, e, d, b, g]; done) rfl)

def slices_Equal_bool_S1 (n : Nat) (q : List Bool) (u : List Bool) (v : Int) : St :=
  { ch := [(0, aL cB q), (1, aL cB u), (12, .int .i64 (q.length : Int)), (13, .int .i64 v)], hp := [], base := 0, n := 26, cond := True }

theorem con_slices_Equal_bool {n : Nat} {q : List Bool} {u : List Bool} {r : Bool} (h : slices_Equal_bool n q u = some r) : Con Try.prog 23 [aL cB q, aL cB u] (.bool r) [] := by
  refine con_of (T := TT0) tt_ok Try.func23 (c := _) (by unfold Try.f23; rfl) Try.ntmps23 (rs := [.tmp 4]) (by rw [Try.results23]) (by unfold Try.f23; rfl) (by simp) ?_
  simp only [argsCh]
  dsimp only [slices_Equal_bool] at h
  refine Wp.reg_seq (own := fun _ => false) tt_ok ?_
  iterate 1
    refine regv_pure (s1 := ?_) rfl rfl ?_ ?_ ?_
    rotate_left
    · simp []; rfl
    · first | (simp [] <;> omega) | skip
  refine regv_nil ?_
  refine Wp.seq ?_
  refine Wp.reg_seq (own := fun _ => false) tt_ok ?_
  iterate 5
    refine regv_pure (s1 := ?_) rfl rfl ?_ ?_ ?_
    rotate_left
    · simp []; rfl
    · first | (simp [] <;> omega) | skip
  refine regv_nil ?_
  cases a : ((q.length : Int) != (u.length : Int))
  · rw [a, if_neg (by simp)] at h
    refine Wp.cond false (by first | (simp [a] <;> omega) | (have hq := a; simp at hq; simp [a, hq]; done)) (fun h0 => absurd h0 (by decide)) (fun _ => ?_)
    refine Wp.skip ?_
    show Wp _ _ _ _
    refine Wp.seq ?_
    refine Wp.reg_seq (own := fun _ => false) tt_ok ?_
    iterate 3
      refine regv_pure (s1 := ?_) rfl rfl ?_ ?_ ?_
      rotate_left
      · simp [a]; rfl
      · first | (simp [a] <;> omega) | (have hq := a; simp at hq; simp [a, hq]; done) | skip
    refine regv_nil ?_
    refine Wp.block ?_
    refine Wp.loopF (α := Int) (fun x => slices_Equal_bool_S1 n q u x) (fun m x => slices_Equal_bool_L1 q u m x = some r) (fun _ h => by cases h) ?_ n 0 h ?_
    rotate_left
    · simp only [slices_Equal_bool_S1]
      refine Reloc.mk2 [] rfl rfl rfl (by decide) ?_ ?_
      · repeat' first | exact objsLe_nil | refine objsLe_cons ?_ ?_
        all_goals first
          | exact trivial
          | (refine ObjLe.var' rfl rfl ?_ rfl
             repeat' first | exact All2.nil | refine All2.cons ?_ ?_
             all_goals first | (exact AvLe.refl _ rfl) | (exact AvLe.sl _ _ _ _ rfl) | (exact AvLe.hptr _ _ _ _ rfl) | (exact AvLe.mp _ _ rfl) | (exact AvLe.nil _) | (exact AvLe.znil _) | (exact AvLe.ghost _ rfl) | (exact AvLe.zghost _ rfl) | (exact AvLe.sl' rfl (by simp [a]; done) (by first | (simp [a] <;> omega) | omega)) | (exact AvLe.frz2 rfl (by simp) rfl (by simp [a]; done) (by simp [a]; done) (by simp [a]; done)) | (exact AvLe.list' (by simp [a]; done) (by simp [a]; done)) | (exact AvLe.eq (by simp [a]; done) rfl))
          | (exact ObjLe.map' rfl rfl)
          | (exact ObjLe.map2 rfl rfl (by first | (simp [a]; done) | (simp [a]; rfl)))
          | (exact ObjLe.slot' rfl)
          | (exact ObjLe.ghost' rfl (by decide))
          | (exact ObjLe.arr' rfl rfl (by first | (simp [a] <;> omega)) (fun _ _ => by first | rfl | (simp [a]; done)))
          | ((simp [a]; done))
      · repeat' first | exact chLe_nil | refine chLe_cons ?_ ?_ | exact AvLe.refl _ rfl | refine AvLe.aggs ?_ | exact All2.nil | refine All2.cons ?_ ?_
        all_goals first
          | (exact AvLe.refl _ rfl)
          | (exact AvLe.sl _ _ _ _ rfl)
          | (exact AvLe.hptr _ _ _ _ rfl)
          | (exact AvLe.mp _ _ rfl)
          | (exact AvLe.nil _)
          | (exact AvLe.znil _)
          | (exact AvLe.ghost _ rfl)
          | (exact AvLe.zghost _ rfl)
          | (exact AvLe.sl' rfl (by simp [a]; done) (by first | (simp [a] <;> omega) | omega))
          | (exact AvLe.frz2 rfl (by simp) rfl (by simp [a]; done) (by simp [a]; done) (by simp [a]; done))
          | (exact AvLe.list' (by simp [a]; done) (by simp [a]; done))
          | (exact AvLe.eq (by simp [a]; done) rfl)
    rintro rec_n1 v h
    simp only [slices_Equal_bool_S1]
    dsimp only [slices_Equal_bool_L1] at h
    refine Wp.reg_seq (own := fun _ => false) tt_ok ?_
    iterate 1
      refine regv_pure (s1 := ?_) rfl rfl ?_ ?_ ?_
      rotate_left
      · simp [a]; rfl
      · first | (simp [a] <;> omega) | (have hq := a; simp at hq; simp [a, hq]; done) | skip
    refine regv_nil ?_
    refine Wp.seq ?_
    refine (Decidable.em (v < (q.length : Int))).symm.elim (fun b => ?_) (fun b => ?_)
    · rw [if_neg (by simpa using b)] at h
      refine Wp.cond false (by first | (simp [a, b] <;> omega) | (have hq := b; simp at hq; simp [a, b, hq]; done)) (fun h0 => absurd h0 (by decide)) (fun _ => ?_)
      refine Wp.exit ?_
      show Wp _ _ _ _
      refine Wp.reg_seq (own := fun _ => false) tt_ok ?_
      iterate 1
        refine regv_pure (s1 := ?_) rfl rfl ?_ ?_ ?_
        rotate_left
        · simp [a, b]; rfl
        · first | (simp [a, b] <;> omega) | (have hq := b; simp at hq; simp [a, b, hq]; done) | skip
      refine regv_nil ?_
      cases h
      refine Wp.ret (endQ_ret0 rfl ?_)
      repeat' first | exact All2.nil | refine All2.cons ?_ ?_ | refine AvLe.tups ?_ | refine AvLe.aggs ?_
      all_goals first
        | (exact AvLe.refl _ rfl)
        | (exact AvLe.nil _)
        | (exact AvLe.znil _)
        | (exact AvLe.ghost _ rfl)
        | (exact AvLe.zghost _ rfl)
        | (exact AvLe.sl' rfl (by simp [a, b]; done) (by simp [a, b]; done))
        | (exact AvLe.frz' rfl rfl rfl (by simp [a, b]; done) (by simp [a, b]; done) (by simp [a, b]; done))
        | (exact AvLe.list' (by simp [a, b]; done) (by simp [a, b]; done))
        | (exact AvLe.eq (by simp [a, b]; done) rfl)
    · rw [if_pos (decide_eq_true b)] at h
      refine Wp.cond true (by first | (simp [a, b] <;> omega) | (have hq := b; simp at hq; simp [a, b, hq]; done)) (fun _ => ?_) (fun h0 => absurd h0 (by decide))
      refine Wp.skip ?_
      show Wp _ _ _ _
      refine Wp.seq ?_
      refine Wp.block ?_
      refine Wp.reg_seq (own := fun _ => false) tt_ok ?_
      iterate 2
        refine regv_pure (s1 := ?_) rfl rfl ?_ ?_ ?_
        rotate_left
        · simp [a, b]; rfl
        · first | (simp [a, b] <;> omega) | (have hq := b; simp at hq; simp [a, b, hq]; done) | skip
      refine regv_nil ?_
      refine Wp.drawn (own := fun _ => false) tt_ok mixed [] (by decide +kernel) trivial ?_
      refine regI_upto 2 (r := ?_) ?_ ?_ ?_
      rotate_left
      · simp [List.range, List.range.loop, a, b]; rfl
      · first | (simp [a, b] <;> omega) | (have hq := b; simp at hq; simp [a, b, hq]; done) | skip
      obtain ⟨z, w, h⟩ := obind h
      obtain ⟨g, e, d⟩ := atI_some w
      try simp [a, b] at e
      try simp only [Int.toNat_natCast, Int.reduceToNat, Nat.zero_add, Nat.add_zero] at d
      have f := getElem_of d
      refine regI_upto 4 (r := ?_) ?_ ?_ ?_
      rotate_left
      · simp [List.range, List.range.loop, a, b, g, e, d, f]; rfl
      · first | (simp [a, b, g, e, d, f] <;> omega) | (have hq := f; simp at hq; simp [a, b, g, e, d, f, hq]; done) | skip
      obtain ⟨aa, y, h⟩ := obind h
      obtain ⟨o, j, i⟩ := atI_some y
      try simp [a, b, g, e, d, f] at j
      try simp only [Int.toNat_natCast, Int.reduceToNat, Nat.zero_add, Nat.add_zero] at i
      have k := getElem_of i
      refine regI_upto 3 (r := ?_) ?_ ?_ ?_
      rotate_left
      · simp [List.range, List.range.loop, a, b, g, e, d, f, o, j, i, k]; rfl
      · first | (simp [a, b, g, e, d, f, o, j, i, k] <;> omega) | (have hq := k; simp at hq; simp [a, b, g, e, d, f, o, j, i, k, hq]; done) | skip
      refine regI_nil ?_
      cases p : (!(z == aa))
      · rw [p, if_neg (by simp)] at h
        refine Wp.cond false (by first | (simp [a, b, g, e, d, f, o, j, i, k, p] <;> omega) | (have hq := p; simp at hq; simp [a, b, g, e, d, f, o, j, i, k, p, hq]; done)) (fun h0 => absurd h0 (by decide)) (fun _ => ?_)
        refine Wp.skip ?_
        show Wp _ _ _ _
        refine Wp.reg (own := fun _ => false) tt_ok ?_
        iterate 2
          refine regv_pure (s1 := ?_) rfl rfl ?_ ?_ ?_
          rotate_left
          · simp [a, b, g, e, d, f, o, j, i, k, p]; rfl
          · first | (simp [a, b, g, e, d, f, o, j, i, k, p] <;> omega) | (have hq := p; simp at hq; simp [a, b, g, e, d, f, o, j, i, k, p, hq]; done) | skip
        refine regv_nil ?_
        refine next_mk (IntKind.i64.wrap (v + 1)) h ?_
        refine Reloc.mk2 [] rfl rfl rfl (by decide) ?_ ?_
        · repeat' first | exact objsLe_nil | refine objsLe_cons ?_ ?_
          all_goals first
            | exact trivial
            | (refine ObjLe.var' rfl rfl ?_ rfl
               repeat' first | exact All2.nil | refine All2.cons ?_ ?_
               all_goals first | (exact AvLe.refl _ rfl) | (exact AvLe.sl _ _ _ _ rfl) | (exact AvLe.hptr _ _ _ _ rfl) | (exact AvLe.mp _ _ rfl) | (exact AvLe.nil _) | (exact AvLe.znil _) | (exact AvLe.ghost _ rfl) | (exact AvLe.zghost _ rfl) | (exact AvLe.sl' rfl (by simp [a, b, g, e, d, f, o, j, i, k, p]; done) (by first | (simp [a, b, g, e, d, f, o, j, i, k, p] <;> omega) | omega)) | (exact AvLe.frz2 rfl (by simp) rfl (by simp [a, b, g, e, d, f, o, j, i, k, p]; done) (by simp [a, b, g, e, d, f, o, j, i, k, p]; done) (by simp [a, b, g, e, d, f, o, j, i, k, p]; done)) | (exact AvLe.list' (by simp [a, b, g, e, d, f, o, j, i, k, p]; done) (by simp [a, b, g, e, d, f, o, j, i, k, p]; done)) | (exact AvLe.eq (by simp [a, b, g, e, d, f, o, j, i, k, p]; done) rfl))
            | (exact ObjLe.map' rfl rfl)
            | (exact ObjLe.map2 rfl rfl (by first | (simp [a, b, g, e, d, f, o, j, i, k, p]; done) | (simp [a, b, g, e, d, f, o, j, i, k, p]; rfl)))
            | (exact ObjLe.slot' rfl)
            | (exact ObjLe.ghost' rfl (by decide))
            | (exact ObjLe.arr' rfl rfl (by first | (simp [a, b, g, e, d, f, o, j, i, k, p] <;> omega)) (fun _ _ => by first | rfl | (simp [a, b, g, e, d, f, o, j, i, k, p]; done)))
            | ((simp [a, b, g, e, d, f, o, j, i, k, p]; done))
        · repeat' first | exact chLe_nil | refine chLe_cons ?_ ?_ | exact AvLe.refl _ rfl | refine AvLe.aggs ?_ | exact All2.nil | refine All2.cons ?_ ?_
          all_goals first
            | (exact AvLe.refl _ rfl)
            | (exact AvLe.sl _ _ _ _ rfl)
            | (exact AvLe.hptr _ _ _ _ rfl)
            | (exact AvLe.mp _ _ rfl)
            | (exact AvLe.nil _)
            | (exact AvLe.znil _)
            | (exact AvLe.ghost _ rfl)
            | (exact AvLe.zghost _ rfl)
            | (exact AvLe.sl' rfl (by simp [a, b, g, e, d, f, o, j, i, k, p]; done) (by first | (simp [a, b, g, e, d, f, o, j, i, k, p] <;> omega) | omega))
            | (exact AvLe.frz2 rfl (by simp) rfl (by simp [a, b, g, e, d, f, o, j, i, k, p]; done) (by simp [a, b, g, e, d, f, o, j, i, k, p]; done) (by simp [a, b, g, e, d, f, o, j, i, k, p]; done))
            | (exact AvLe.list' (by simp [a, b, g, e, d, f, o, j, i, k, p]; done) (by simp [a, b, g, e, d, f, o, j, i, k, p]; done))
            | (exact AvLe.eq (by simp [a, b, g, e, d, f, o, j, i, k, p]; done) rfl)
      · rw [p, if_pos rfl] at h
        refine Wp.cond true (by first | (simp [a, b, g, e, d, f, o, j, i, k, p] <;> omega) | (have hq := p; simp at hq; simp [a, b, g, e, d, f, o, j, i, k, p, hq]; done)) (fun _ => ?_) (fun h0 => absurd h0 (by decide))
        refine Wp.reg_seq (own := fun _ => false) tt_ok ?_
        iterate 1
          refine regv_pure (s1 := ?_) rfl rfl ?_ ?_ ?_
          rotate_left
          · simp [a, b, g, e, d, f, o, j, i, k, p]; rfl
          · first | (simp [a, b, g, e, d, f, o, j, i, k, p] <;> omega) | (have hq := p; simp at hq; simp [a, b, g, e, d, f, o, j, i, k, p, hq]; done) | skip
        refine regv_nil ?_
        cases h
        refine Wp.ret (endQ_ret0 rfl ?_)
        repeat' first | exact All2.nil | refine All2.cons ?_ ?_ | refine AvLe.tups ?_ | refine AvLe.aggs ?_
        all_goals first
          | (exact AvLe.refl _ rfl)
          | (exact AvLe.nil _)
          | (exact AvLe.znil _)
          | (exact AvLe.ghost _ rfl)
          | (exact AvLe.zghost _ rfl)
          | (exact AvLe.sl' rfl (by simp [a, b, g, e, d, f, o, j, i, k, p]; done) (by simp [a, b, g, e, d, f, o, j, i, k, p]; done))
          | (exact AvLe.frz' rfl rfl rfl (by simp [a, b, g, e, d, f, o, j, i, k, p]; done) (by simp [a, b, g, e, d, f, o, j, i, k, p]; done) (by simp [a, b, g, e, d, f, o, j, i, k, p]; done))
          | (exact AvLe.list' (by simp [a, b, g, e, d, f, o, j, i, k, p]; done) (by simp [a, b, g, e, d, f, o, j, i, k, p]; done))
          | (exact AvLe.eq (by simp [a, b, g, e, d, f, o, j, i, k, p]; done) rfl)
  · rw [a, if_pos rfl] at h
    refine Wp.cond true (by first | (simp [a] <;> omega) | (have hq := a; simp at hq; simp [a, hq]; done)) (fun _ => ?_) (fun h0 => absurd h0 (by decide))
    refine Wp.reg_seq (own := fun _ => false) tt_ok ?_
    iterate 1
      refine regv_pure (s1 := ?_) rfl rfl ?_ ?_ ?_
      rotate_left
      · simp [a]; rfl
      · first | (simp [a] <;> omega) | (have hq := a; simp at hq; simp [a, hq]; done) | skip
    refine regv_nil ?_
    cases h
    refine Wp.ret (endQ_ret0 rfl ?_)
    repeat' first | exact All2.nil | refine All2.cons ?_ ?_ | refine AvLe.tups ?_ | refine AvLe.aggs ?_
    all_goals first
      | (exact AvLe.refl _ rfl)
      | (exact AvLe.nil _)
      | (exact AvLe.znil _)
      | (exact AvLe.ghost _ rfl)
      | (exact AvLe.zghost _ rfl)
      | (exact AvLe.sl' rfl (by simp [a]; done) (by simp [a]; done))
      | (exact AvLe.frz' rfl rfl rfl (by simp [a]; done) (by simp [a]; done) (by simp [a]; done))
      | (exact AvLe.list' (by simp [a]; done) (by simp [a]; done))
      | (exact AvLe.eq (by simp [a]; done) rfl)

theorem con_rungeval_conducting {n : Nat} {kind0 : Int} {v1 : Bool} {was2 : Bool} {r : Bool} (h : rungeval_conducting n kind0 v1 was2 = some r) : Con Try.prog 35 [.int .i64 kind0, .bool v1, .bool was2] (.bool r) [] := by
  refine con_of (T := TT0) tt_ok Try.func35 (c := _) (by unfold Try.f35; rfl) Try.ntmps35 (rs := [.tmp 6]) (by rw [Try.results35]) (by unfold Try.f35; rfl) (by simp) ?_
  simp only [argsCh]
  dsimp only [rungeval_conducting] at h
  refine Wp.reg_seq (own := fun _ => false) tt_ok ?_
  iterate 1
    refine regv_pure (s1 := ?_) rfl rfl ?_ ?_ ?_
    rotate_left
    · simp []; rfl
    · first | (simp [] <;> omega) | skip
  refine regv_nil ?_
  refine Wp.reg_seq (own := fun _ => false) tt_ok ?_
  iterate 5
    refine regv_pure (s1 := ?_) rfl rfl ?_ ?_ ?_
    rotate_left
    · simp []; rfl
    · first | (simp [] <;> omega) | skip
  refine (Bool.eq_false_or_eq_true v1).symm.elim (fun a => ?_) (fun a => ?_)
  · rw [if_neg (by rw [a]; simp)] at h
    refine regv_skip (s1 := ?_) ?_ ?_ ?_
    rotate_left
    · simp [a]; done
    · simp [a]; rfl
    refine regv_skip (s1 := ?_) ?_ ?_ ?_
    rotate_left
    · simp [a]; done
    · simp [a]; rfl
    iterate 4
      refine regv_pure (s1 := ?_) rfl rfl ?_ ?_ ?_
      rotate_left
      · simp [a]; rfl
      · first | (simp [a] <;> omega) | (have hq := a; simp at hq; simp [a, hq]; done) | skip
    refine regv_pure (s1 := ?_) rfl ?_ ?_ ?_ ?_
    rotate_left
    · simp [a]; done
    · simp [a]; rfl
    · first | (simp [a] <;> omega) | (have hq := a; simp at hq; simp [a, hq]; done) | skip
    iterate 3
      refine regv_pure (s1 := ?_) rfl rfl ?_ ?_ ?_
      rotate_left
      · simp [a]; rfl
      · first | (simp [a] <;> omega) | (have hq := a; simp at hq; simp [a, hq]; done) | skip
    by_cases b : kind0 = 0
    · rw [if_pos b] at h
      iterate 2
        refine regv_pure (s1 := ?_) rfl rfl ?_ ?_ ?_
        rotate_left
        · simp [a, b]; rfl
        · first | (simp [a, b] <;> omega) | (have hq := b; simp at hq; simp [a, b, hq]; done) | skip
      refine regv_nil ?_
      cases h
      refine Wp.ret (endQ_ret0 rfl ?_)
      repeat' first | exact All2.nil | refine All2.cons ?_ ?_ | refine AvLe.tups ?_ | refine AvLe.aggs ?_
      all_goals first
        | (exact AvLe.refl _ rfl)
        | (exact AvLe.nil _)
        | (exact AvLe.znil _)
        | (exact AvLe.ghost _ rfl)
        | (exact AvLe.zghost _ rfl)
        | (exact AvLe.sl' rfl (by simp [a, b]; done) (by simp [a, b]; done))
        | (exact AvLe.frz' rfl rfl rfl (by simp [a, b]; done) (by simp [a, b]; done) (by simp [a, b]; done))
        | (exact AvLe.list' (by simp [a, b]; done) (by simp [a, b]; done))
        | (exact AvLe.eq (by simp [a, b]; done) rfl)
    · rw [if_neg b] at h
      by_cases e : kind0 = 1
      · rw [if_pos e] at h
        iterate 2
          refine regv_pure (s1 := ?_) rfl rfl ?_ ?_ ?_
          rotate_left
          · simp [a, b, e]; rfl
          · first | (simp [a, b, e] <;> omega) | (have hq := e; simp at hq; simp [a, b, e, hq]; done) | skip
        refine regv_nil ?_
        cases h
        refine Wp.ret (endQ_ret0 rfl ?_)
        repeat' first | exact All2.nil | refine All2.cons ?_ ?_ | refine AvLe.tups ?_ | refine AvLe.aggs ?_
        all_goals first
          | (exact AvLe.refl _ rfl)
          | (exact AvLe.nil _)
          | (exact AvLe.znil _)
          | (exact AvLe.ghost _ rfl)
          | (exact AvLe.zghost _ rfl)
          | (exact AvLe.sl' rfl (by simp [a, b, e]; done) (by simp [a, b, e]; done))
          | (exact AvLe.frz' rfl rfl rfl (by simp [a, b, e]; done) (by simp [a, b, e]; done) (by simp [a, b, e]; done))
          | (exact AvLe.list' (by simp [a, b, e]; done) (by simp [a, b, e]; done))
          | (exact AvLe.eq (by simp [a, b, e]; done) rfl)
      · rw [if_neg e] at h
        by_cases g : kind0 = 2
        · rw [if_pos g] at h
          iterate 2
            refine regv_pure (s1 := ?_) rfl rfl ?_ ?_ ?_
            rotate_left
            · simp [a, b, e, g]; rfl
            · first | (simp [a, b, e, g] <;> omega) | (have hq := g; simp at hq; simp [a, b, e, g, hq]; done) | skip
          refine regv_nil ?_
          cases h
          refine Wp.ret (endQ_ret0 rfl ?_)
          repeat' first | exact All2.nil | refine All2.cons ?_ ?_ | refine AvLe.tups ?_ | refine AvLe.aggs ?_
          all_goals first
            | (exact AvLe.refl _ rfl)
            | (exact AvLe.nil _)
            | (exact AvLe.znil _)
            | (exact AvLe.ghost _ rfl)
            | (exact AvLe.zghost _ rfl)
            | (exact AvLe.sl' rfl (by simp [a, b, e, g]; done) (by simp [a, b, e, g]; done))
            | (exact AvLe.frz' rfl rfl rfl (by simp [a, b, e, g]; done) (by simp [a, b, e, g]; done) (by simp [a, b, e, g]; done))
            | (exact AvLe.list' (by simp [a, b, e, g]; done) (by simp [a, b, e, g]; done))
            | (exact AvLe.eq (by simp [a, b, e, g]; done) rfl)
        · rw [if_neg g] at h
          by_cases j : kind0 = 3
          · rw [if_pos j] at h
            iterate 2
              refine regv_pure (s1 := ?_) rfl rfl ?_ ?_ ?_
              rotate_left
              · simp [a, b, e, g, j]; rfl
              · first | (simp [a, b, e, g, j] <;> omega) | (have hq := j; simp at hq; simp [a, b, e, g, j, hq]; done) | skip
            refine regv_nil ?_
            cases h
            refine Wp.ret (endQ_ret0 rfl ?_)
            repeat' first | exact All2.nil | refine All2.cons ?_ ?_ | refine AvLe.tups ?_ | refine AvLe.aggs ?_
            all_goals first
              | (exact AvLe.refl _ rfl)
              | (exact AvLe.nil _)
              | (exact AvLe.znil _)
              | (exact AvLe.ghost _ rfl)
              | (exact AvLe.zghost _ rfl)
              | (exact AvLe.sl' rfl (by simp [a, b, e, g, j]; done) (by simp [a, b, e, g, j]; done))
              | (exact AvLe.frz' rfl rfl rfl (by simp [a, b, e, g, j]; done) (by simp [a, b, e, g, j]; done) (by simp [a, b, e, g, j]; done))
              | (exact AvLe.list' (by simp [a, b, e, g, j]; done) (by simp [a, b, e, g, j]; done))
              | (exact AvLe.eq (by simp [a, b, e, g, j]; done) rfl)
          · rw [if_neg j] at h
            cases h
  · rw [if_pos a] at h
    refine regv_pure (s1 := ?_) rfl ?_ ?_ ?_ ?_
    rotate_left
    · simp [a]; done
    · simp [a]; rfl
    · first | (simp [a] <;> omega) | (have hq := a; simp at hq; simp [a, hq]; done) | skip
    refine regv_pure (s1 := ?_) rfl ?_ ?_ ?_ ?_
    rotate_left
    · simp [a]; done
    · simp [a]; rfl
    · first | (simp [a] <;> omega) | (have hq := a; simp at hq; simp [a, hq]; done) | skip
    iterate 4
      refine regv_pure (s1 := ?_) rfl rfl ?_ ?_ ?_
      rotate_left
      · simp [a]; rfl
      · first | (simp [a] <;> omega) | (have hq := a; simp at hq; simp [a, hq]; done) | skip
    refine regv_skip (s1 := ?_) ?_ ?_ ?_
    rotate_left
    · simp [a]; done
    · simp [a]; rfl
    iterate 3
      refine regv_pure (s1 := ?_) rfl rfl ?_ ?_ ?_
      rotate_left
      · simp [a]; rfl
      · first | (simp [a] <;> omega) | (have hq := a; simp at hq; simp [a, hq]; done) | skip
    by_cases d : kind0 = 0
    · rw [if_pos d] at h
      iterate 2
        refine regv_pure (s1 := ?_) rfl rfl ?_ ?_ ?_
        rotate_left
        · simp [a, d]; rfl
        · first | (simp [a, d] <;> omega) | (have hq := d; simp at hq; simp [a, d, hq]; done) | skip
      refine regv_nil ?_
      cases h
      refine Wp.ret (endQ_ret0 rfl ?_)
      repeat' first | exact All2.nil | refine All2.cons ?_ ?_ | refine AvLe.tups ?_ | refine AvLe.aggs ?_
      all_goals first
        | (exact AvLe.refl _ rfl)
        | (exact AvLe.nil _)
        | (exact AvLe.znil _)
        | (exact AvLe.ghost _ rfl)
        | (exact AvLe.zghost _ rfl)
        | (exact AvLe.sl' rfl (by simp [a, d]; done) (by simp [a, d]; done))
        | (exact AvLe.frz' rfl rfl rfl (by simp [a, d]; done) (by simp [a, d]; done) (by simp [a, d]; done))
        | (exact AvLe.list' (by simp [a, d]; done) (by simp [a, d]; done))
        | (exact AvLe.eq (by simp [a, d]; done) rfl)
    · rw [if_neg d] at h
      by_cases f : kind0 = 1
      · rw [if_pos f] at h
        iterate 2
          refine regv_pure (s1 := ?_) rfl rfl ?_ ?_ ?_
          rotate_left
          · simp [a, d, f]; rfl
          · first | (simp [a, d, f] <;> omega) | (have hq := f; simp at hq; simp [a, d, f, hq]; done) | skip
        refine regv_nil ?_
        cases h
        refine Wp.ret (endQ_ret0 rfl ?_)
        repeat' first | exact All2.nil | refine All2.cons ?_ ?_ | refine AvLe.tups ?_ | refine AvLe.aggs ?_
        all_goals first
          | (exact AvLe.refl _ rfl)
          | (exact AvLe.nil _)
          | (exact AvLe.znil _)
          | (exact AvLe.ghost _ rfl)
          | (exact AvLe.zghost _ rfl)
          | (exact AvLe.sl' rfl (by simp [a, d, f]; done) (by simp [a, d, f]; done))
          | (exact AvLe.frz' rfl rfl rfl (by simp [a, d, f]; done) (by simp [a, d, f]; done) (by simp [a, d, f]; done))
          | (exact AvLe.list' (by simp [a, d, f]; done) (by simp [a, d, f]; done))
          | (exact AvLe.eq (by simp [a, d, f]; done) rfl)
      · rw [if_neg f] at h
        by_cases i : kind0 = 2
        · rw [if_pos i] at h
          iterate 2
            refine regv_pure (s1 := ?_) rfl rfl ?_ ?_ ?_
            rotate_left
            · simp [a, d, f, i]; rfl
            · first | (simp [a, d, f, i] <;> omega) | (have hq := i; simp at hq; simp [a, d, f, i, hq]; done) | skip
          refine regv_nil ?_
          cases h
          refine Wp.ret (endQ_ret0 rfl ?_)
          repeat' first | exact All2.nil | refine All2.cons ?_ ?_ | refine AvLe.tups ?_ | refine AvLe.aggs ?_
          all_goals first
            | (exact AvLe.refl _ rfl)
            | (exact AvLe.nil _)
            | (exact AvLe.znil _)
            | (exact AvLe.ghost _ rfl)
            | (exact AvLe.zghost _ rfl)
            | (exact AvLe.sl' rfl (by simp [a, d, f, i]; done) (by simp [a, d, f, i]; done))
            | (exact AvLe.frz' rfl rfl rfl (by simp [a, d, f, i]; done) (by simp [a, d, f, i]; done) (by simp [a, d, f, i]; done))
            | (exact AvLe.list' (by simp [a, d, f, i]; done) (by simp [a, d, f, i]; done))
            | (exact AvLe.eq (by simp [a, d, f, i]; done) rfl)
        · rw [if_neg i] at h
          by_cases k : kind0 = 3
          · rw [if_pos k] at h
            iterate 2
              refine regv_pure (s1 := ?_) rfl rfl ?_ ?_ ?_
              rotate_left
              · simp [a, d, f, i, k]; rfl
              · first | (simp [a, d, f, i, k] <;> omega) | (have hq := k; simp at hq; simp [a, d, f, i, k, hq]; done) | skip
            refine regv_nil ?_
            cases h
            refine Wp.ret (endQ_ret0 rfl ?_)
            repeat' first | exact All2.nil | refine All2.cons ?_ ?_ | refine AvLe.tups ?_ | refine AvLe.aggs ?_
            all_goals first
              | (exact AvLe.refl _ rfl)
              | (exact AvLe.nil _)
              | (exact AvLe.znil _)
              | (exact AvLe.ghost _ rfl)
              | (exact AvLe.zghost _ rfl)
              | (exact AvLe.sl' rfl (by simp [a, d, f, i, k]; done) (by simp [a, d, f, i, k]; done))
              | (exact AvLe.frz' rfl rfl rfl (by simp [a, d, f, i, k]; done) (by simp [a, d, f, i, k]; done) (by simp [a, d, f, i, k]; done))
              | (exact AvLe.list' (by simp [a, d, f, i, k]; done) (by simp [a, d, f, i, k]; done))
              | (exact AvLe.eq (by simp [a, d, f, i, k]; done) rfl)
          · rw [if_neg k] at h
            cases h

theorem con_image_is {n : Nat} {l0 : List Bool} {n_1 : Int} {r : Bool} (h : image_is n l0 n_1 = some r) : Con Try.prog 42 [aL cB l0, .int .i64 n_1] (.bool r) [] := by
  refine con_of (T := TT0) tt_ok Try.func42 (c := _) (by unfold Try.f42; rfl) Try.ntmps42 (rs := [.tmp 4]) (by rw [Try.results42]) (by unfold Try.f42; rfl) (by simp) ?_
  simp only [argsCh]
  dsimp only [image_is] at h
  refine Wp.reg_seq (own := fun _ => false) tt_ok ?_
  iterate 1
    refine regv_pure (s1 := ?_) rfl rfl ?_ ?_ ?_
    rotate_left
    · simp []; rfl
    · first | (simp [] <;> omega) | skip
  refine regv_nil ?_
  refine Wp.reg_seq (own := fun _ => false) tt_ok ?_
  iterate 3
    refine regv_pure (s1 := ?_) rfl rfl ?_ ?_ ?_
    rotate_left
    · simp []; rfl
    · first | (simp [] <;> omega) | skip
  refine (Decidable.em (n_1 ≥ 0)).symm.elim (fun hb1 => ?_) (fun hb1 => ?_)
  · rw [if_neg (by simpa using hb1)] at h
    refine regv_skip (s1 := ?_) ?_ ?_ ?_
    rotate_left
    · simp [hb1]; done
    · simp [hb1]; rfl
    refine regv_skip (s1 := ?_) ?_ ?_ ?_
    rotate_left
    · simp [hb1]; done
    · simp [hb1]; rfl
    refine regv_skip (s1 := ?_) ?_ ?_ ?_
    rotate_left
    · simp [hb1]; done
    · simp [hb1]; rfl
    refine regv_skip (s1 := ?_) ?_ ?_ ?_
    rotate_left
    · simp [hb1]; done
    · simp [hb1]; rfl
    iterate 2
      refine regv_pure (s1 := ?_) rfl rfl ?_ ?_ ?_
      rotate_left
      · simp [hb1]; rfl
      · first | (simp [hb1] <;> omega) | (have hq := hb1; simp at hq; simp [hb1, hq]; done) | skip
    refine regv_nil ?_
    cases h
    refine Wp.ret (endQ_ret0 rfl ?_)
    repeat' first | exact All2.nil | refine All2.cons ?_ ?_ | refine AvLe.tups ?_ | refine AvLe.aggs ?_
    all_goals first
      | (exact AvLe.refl _ rfl)
      | (exact AvLe.nil _)
      | (exact AvLe.znil _)
      | (exact AvLe.ghost _ rfl)
      | (exact AvLe.zghost _ rfl)
      | (exact AvLe.sl' rfl (by simp [hb1]; done) (by simp [hb1]; done))
      | (exact AvLe.frz' rfl rfl rfl (by simp [hb1]; done) (by simp [hb1]; done) (by simp [hb1]; done))
      | (exact AvLe.list' (by simp [hb1]; done) (by simp [hb1]; done))
      | (exact AvLe.eq (by simp [hb1]; done) rfl)
  · rw [if_pos (decide_eq_true hb1)] at h
    refine regv_pure (s1 := ?_) rfl ?_ ?_ ?_ ?_
    rotate_left
    · simp [hb1]; done
    · simp [hb1]; rfl
    · first | (simp [hb1] <;> omega) | (have hq := hb1; simp at hq; simp [hb1, hq]; done) | skip
    refine regv_pure (s1 := ?_) rfl ?_ ?_ ?_ ?_
    rotate_left
    · simp [hb1]; done
    · simp [hb1]; rfl
    · first | (simp [hb1] <;> omega) | (have hq := hb1; simp at hq; simp [hb1, hq]; done) | skip
    refine regv_pure (s1 := ?_) rfl ?_ ?_ ?_ ?_
    rotate_left
    · simp [hb1]; done
    · simp [hb1]; rfl
    · first | (simp [hb1] <;> omega) | (have hq := hb1; simp at hq; simp [hb1, hq]; done) | skip
    refine regv_pure (s1 := ?_) rfl ?_ ?_ ?_ ?_
    rotate_left
    · simp [hb1]; done
    · simp [hb1]; rfl
    · first | (simp [hb1] <;> omega) | (have hq := hb1; simp at hq; simp [hb1, hq]; done) | skip
    iterate 2
      refine regv_pure (s1 := ?_) rfl rfl ?_ ?_ ?_
      rotate_left
      · simp [hb1]; rfl
      · first | (simp [hb1] <;> omega) | (have hq := hb1; simp at hq; simp [hb1, hq]; done) | skip
    refine regv_nil ?_
    cases h
    refine Wp.ret (endQ_ret0 rfl ?_)
    repeat' first | exact All2.nil | refine All2.cons ?_ ?_ | refine AvLe.tups ?_ | refine AvLe.aggs ?_
    all_goals first
      | (exact AvLe.refl _ rfl)
      | (exact AvLe.nil _)
      | (exact AvLe.znil _)
      | (exact AvLe.ghost _ rfl)
      | (exact AvLe.zghost _ rfl)
      | (exact AvLe.sl' rfl (by simp [hb1]; done) (by simp [hb1]; done))
      | (exact AvLe.frz' rfl rfl rfl (by simp [hb1]; done) (by simp [hb1]; done) (by simp [hb1]; done))
      | (exact AvLe.list' (by simp [hb1]; done) (by simp [hb1]; done))
      | (exact AvLe.eq (by simp [hb1]; done) rfl)

theorem con_image_Get {n : Nat} {l0 : List Bool} {n_1 : Int} {r : Bool × Int} (h : image_Get n l0 n_1 = some r) : Con Try.prog 41 [aL cB l0, .int .i64 n_1] (.tup [.bool r.1, .int .i64 r.2]) [] := by
  refine con_of (T := TT0) tt_ok Try.func41 (c := _) (by unfold Try.f41; rfl) Try.ntmps41 (rs := [.tmp 4, .tmp 5]) (by rw [Try.results41]) (by unfold Try.f41; rfl) (by simp) ?_
  simp only [argsCh]
  dsimp only [image_Get] at h
  refine Wp.reg_seq (own := fun _ => false) tt_ok ?_
  iterate 2
    refine regv_pure (s1 := ?_) rfl rfl ?_ ?_ ?_
    rotate_left
    · simp []; rfl
    · first | (simp [] <;> omega) | skip
  refine regv_nil ?_
  refine Wp.seq ?_
  refine Wp.reg_seq (own := fun _ => false) tt_ok ?_
  iterate 2
    refine regv_pure (s1 := ?_) rfl rfl ?_ ?_ ?_
    rotate_left
    · simp []; rfl
    · first | (simp [] <;> omega) | skip
  obtain ⟨r2, hr3, h⟩ := obind h
  refine regv_call2 (s' := ?_) (p := ?_) (con_image_is hr3) rfl rfl rfl rfl ?_ ?_ ?_ ?_ ?_ ?_
  rotate_left 2
  · simp []; rfl
  · first | exact .inl rfl | (refine .inl ?_; simp []; done) | (refine .inr ?_; dsimp only; repeat' first | exact All2.nil | refine All2.cons ?_ ?_ | exact AvLe.refl _ rfl | refine AvLe.aggs ?_) <;> first | exact AvLe.refl _ rfl | exact AvLe.nil _ | exact AvLe.znil _ | exact AvLe.list' (by first | (simp [] <;> omega)) (by simp []; done) | exact AvLe.eq (by simp []; done) rfl
  · first | (simp [] <;> omega) | skip
  · simp
  · simp []; rfl
  iterate 1
    refine regv_pure (s1 := ?_) rfl rfl ?_ ?_ ?_
    rotate_left
    · simp []; rfl
    · first | (simp [] <;> omega) | skip
  refine regv_nil ?_
  cases hb4 : (!r2)
  · rw [hb4, if_neg (by simp)] at h
    refine Wp.cond false (by first | (simp [hb4] <;> omega) | (have hq := hb4; simp at hq; simp [hb4, hq]; done)) (fun h0 => absurd h0 (by decide)) (fun _ => ?_)
    refine Wp.skip ?_
    show Wp _ _ _ _
    refine Wp.reg_seq (own := fun _ => false) tt_ok ?_
    iterate 2
      refine regv_pure (s1 := ?_) rfl rfl ?_ ?_ ?_
      rotate_left
      · simp [hb4]; rfl
      · first | (simp [hb4] <;> omega) | (have hq := hb4; simp at hq; simp [hb4, hq]; done) | skip
    obtain ⟨x5, hx6, h⟩ := obind h
    obtain ⟨hx6a, hx6b, hx6c⟩ := atI_some hx6
    try simp [hb4] at hx6b
    try simp only [Int.toNat_natCast, Int.reduceToNat, Nat.zero_add, Nat.add_zero] at hx6c
    have hx6d := getElem_of hx6c
    iterate 4
      refine regv_pure (s1 := ?_) rfl rfl ?_ ?_ ?_
      rotate_left
      · simp [hb4, hx6a, hx6b, hx6c, hx6d]; rfl
      · first | (simp [hb4, hx6a, hx6b, hx6c, hx6d] <;> omega) | (have hq := hx6d; simp at hq; simp [hb4, hx6a, hx6b, hx6c, hx6d, hq]; done) | skip
    refine regv_nil ?_
    cases h
    refine Wp.ret (endQ_ret0 rfl ?_)
    repeat' first | exact All2.nil | refine All2.cons ?_ ?_ | refine AvLe.tups ?_ | refine AvLe.aggs ?_
    all_goals first
      | (exact AvLe.refl _ rfl)
      | (exact AvLe.nil _)
      | (exact AvLe.znil _)
      | (exact AvLe.ghost _ rfl)
      | (exact AvLe.zghost _ rfl)
      | (exact AvLe.sl' rfl (by simp [hb4, hx6a, hx6b, hx6c, hx6d]; done) (by simp [hb4, hx6a, hx6b, hx6c, hx6d]; done))
      | (exact AvLe.frz' rfl rfl rfl (by simp [hb4, hx6a, hx6b, hx6c, hx6d]; done) (by simp [hb4, hx6a, hx6b, hx6c, hx6d]; done) (by simp [hb4, hx6a, hx6b, hx6c, hx6d]; done))
      | (exact AvLe.list' (by simp [hb4, hx6a, hx6b, hx6c, hx6d]; done) (by simp [hb4, hx6a, hx6b, hx6c, hx6d]; done))
      | (exact AvLe.eq (by simp [hb4, hx6a, hx6b, hx6c, hx6d]; done) rfl)
  · rw [hb4, if_pos rfl] at h
    refine Wp.cond true (by first | (simp [hb4] <;> omega) | (have hq := hb4; simp at hq; simp [hb4, hq]; done)) (fun _ => ?_) (fun h0 => absurd h0 (by decide))
    refine Wp.reg_seq (own := fun _ => false) tt_ok ?_
    iterate 2
      refine regv_pure (s1 := ?_) rfl rfl ?_ ?_ ?_
      rotate_left
      · simp [hb4]; rfl
      · first | (simp [hb4] <;> omega) | (have hq := hb4; simp at hq; simp [hb4, hq]; done) | skip
    refine regv_nil ?_
    cases h
    refine Wp.ret (endQ_ret0 rfl ?_)
    repeat' first | exact All2.nil | refine All2.cons ?_ ?_ | refine AvLe.tups ?_ | refine AvLe.aggs ?_
    all_goals first
      | (exact AvLe.refl _ rfl)
      | (exact AvLe.nil _)
      | (exact AvLe.znil _)
      | (exact AvLe.ghost _ rfl)
      | (exact AvLe.zghost _ rfl)
      | (exact AvLe.sl' rfl (by simp [hb4]; done) (by simp [hb4]; done))
      | (exact AvLe.frz' rfl rfl rfl (by simp [hb4]; done) (by simp [hb4]; done) (by simp [hb4]; done))
      | (exact AvLe.list' (by simp [hb4]; done) (by simp [hb4]; done))
      | (exact AvLe.eq (by simp [hb4]; done) rfl)

theorem con_state_Read {n : Nat} {in0 : List Bool} {st1 : ApiState} {a2 : ApiAddr} {r : Bool × Int} (h : state_Read n in0 st1 a2 = some r) : Con Try.prog 33 [aL cB in0, .agg (cApiState st1), .agg (cApiAddr a2)] (.tup [.bool r.1, .int .i64 r.2]) [] := by
  refine con_of (T := TT0) tt_ok Try.func33 (c := _) (by unfold Try.f33; rfl) Try.ntmps33 (rs := [.tmp 6, .tmp 7]) (by rw [Try.results33]) (by unfold Try.f33; rfl) (by simp) ?_
  simp only [argsCh]
  dsimp only [state_Read] at h
  refine Wp.reg_seq (own := fun _ => false) tt_ok ?_
  iterate 4
    refine regv_pure (s1 := ?_) rfl rfl ?_ ?_ ?_
    rotate_left
    · simp []; rfl
    · first | (simp [] <;> omega) | skip
  refine regv_nil ?_
  refine Wp.reg_seq (own := fun _ => false) tt_ok ?_
  iterate 8
    refine regv_pure (s1 := ?_) rfl rfl ?_ ?_ ?_
    rotate_left
    · simp []; rfl
    · first | (simp [] <;> omega) | skip
  refine regv_nil ?_
  refine Wp.seq ?_
  refine Wp.reg_seq (own := fun _ => false) tt_ok ?_
  iterate 4
    refine regv_pure (s1 := ?_) rfl rfl ?_ ?_ ?_
    rotate_left
    · simp []; rfl
    · first | (simp [] <;> omega) | skip
  refine (Decidable.em (a2.Space < 0)).symm.elim (fun a => ?_) (fun a => ?_)
  · rw [if_neg (by simpa using a)] at h
    refine regv_pure (s1 := ?_) rfl ?_ ?_ ?_ ?_
    rotate_left
    · simp [a]; done
    · simp [a]; rfl
    · first | (simp [a] <;> omega) | (have hq := a; simp at hq; simp [a, hq]; done) | skip
    refine regv_pure (s1 := ?_) rfl ?_ ?_ ?_ ?_
    rotate_left
    · simp [a]; done
    · simp [a]; rfl
    · first | (simp [a] <;> omega) | (have hq := a; simp at hq; simp [a, hq]; done) | skip
    refine regv_pure (s1 := ?_) rfl ?_ ?_ ?_ ?_
    rotate_left
    · simp [a]; done
    · simp [a]; rfl
    · first | (simp [a] <;> omega) | (have hq := a; simp at hq; simp [a, hq]; done) | skip
    iterate 1
      refine regv_pure (s1 := ?_) rfl rfl ?_ ?_ ?_
      rotate_left
      · simp [a]; rfl
      · first | (simp [a] <;> omega) | (have hq := a; simp at hq; simp [a, hq]; done) | skip
    refine regv_nil ?_
    refine (Decidable.em (a2.Space ≥ 3)).symm.elim (fun b => ?_) (fun b => ?_)
    · rw [if_neg (by simpa using b)] at h
      refine Wp.cond false (by first | (simp [a, b] <;> omega) | (have hq := b; simp at hq; simp [a, b, hq]; done)) (fun h0 => absurd h0 (by decide)) (fun _ => ?_)
      refine Wp.skip ?_
      show Wp _ _ _ _
      refine Wp.drawn (own := fun _ => false) tt_ok mixed [1, 2] (by decide +kernel) trivial ?_
      refine regI_upto 2 (r := ?_) ?_ ?_ ?_
      rotate_left
      · simp [List.range, List.range.loop, a, b]; rfl
      · first | (simp [a, b] <;> omega) | (have hq := b; simp at hq; simp [a, b, hq]; done) | skip
      by_cases d : a2.Space = 0
      · rw [if_pos d] at h
        refine regI_upto 4 (r := ?_) ?_ ?_ ?_
        rotate_left
        · simp [List.range, List.range.loop, a, b, d]; rfl
        · first | (simp [a, b, d] <;> omega) | (have hq := d; simp at hq; simp [a, b, d, hq]; done) | skip
        obtain ⟨⟨k, m⟩, g, h⟩ := obind h
        dsimp only at h
        refine regI_call2 (s1 := ?_) (p := ?_) (con_image_Get g) rfl rfl rfl rfl ?_ ?_ ?_ (fun _ => rfl) ?_ rfl ?_ ?_
        rotate_left 2
        · simp [a, b, d]; rfl
        · first | exact .inl rfl | (refine .inl ?_; simp [a, b, d]; done) | (refine .inr ?_; dsimp only; repeat' first | exact All2.nil | refine All2.cons ?_ ?_ | exact AvLe.refl _ rfl | refine AvLe.aggs ?_) <;> first | exact AvLe.refl _ rfl | exact AvLe.nil _ | exact AvLe.znil _ | exact AvLe.list' (by first | (simp [a, b, d] <;> omega)) (by simp [a, b, d]; done) | exact AvLe.eq (by simp [a, b, d]; done) rfl
        · first | (simp [a, b, d] <;> omega) | (have hq := d; simp at hq; simp [a, b, d, hq]; done) | skip
        · simp
        · simp [a, b, d]; rfl
        refine regI_upto 4 (r := ?_) ?_ ?_ ?_
        rotate_left
        · simp [List.range, List.range.loop, a, b, d]; rfl
        · first | (simp [a, b, d] <;> omega) | (have hq := d; simp at hq; simp [a, b, d, hq]; done) | skip
        refine regI_nil ?_
        cases h
        refine Wp.ret (endQ_ret0 rfl ?_)
        repeat' first | exact All2.nil | refine All2.cons ?_ ?_ | refine AvLe.tups ?_ | refine AvLe.aggs ?_
        all_goals first
          | (exact AvLe.refl _ rfl)
          | (exact AvLe.nil _)
          | (exact AvLe.znil _)
          | (exact AvLe.ghost _ rfl)
          | (exact AvLe.zghost _ rfl)
          | (exact AvLe.sl' rfl (by simp [a, b, d]; done) (by simp [a, b, d]; done))
          | (exact AvLe.frz' rfl rfl rfl (by simp [a, b, d]; done) (by simp [a, b, d]; done) (by simp [a, b, d]; done))
          | (exact AvLe.list' (by simp [a, b, d]; done) (by simp [a, b, d]; done))
          | (exact AvLe.eq (by simp [a, b, d]; done) rfl)
      · rw [if_neg d] at h
        by_cases e : a2.Space = 1
        · rw [if_pos e] at h
          refine regI_upto 4 (r := ?_) ?_ ?_ ?_
          rotate_left
          · simp [List.range, List.range.loop, a, b, d, e]; rfl
          · first | (simp [a, b, d, e] <;> omega) | (have hq := e; simp at hq; simp [a, b, d, e, hq]; done) | skip
          obtain ⟨⟨o, q⟩, i, h⟩ := obind h
          dsimp only at h
          refine regI_call2 (s1 := ?_) (p := ?_) (con_image_Get i) rfl rfl rfl rfl ?_ ?_ ?_ (fun _ => rfl) ?_ rfl ?_ ?_
          rotate_left 2
          · simp [a, b, d, e]; rfl
          · first | exact .inl rfl | (refine .inl ?_; simp [a, b, d, e]; done) | (refine .inr ?_; dsimp only; repeat' first | exact All2.nil | refine All2.cons ?_ ?_ | exact AvLe.refl _ rfl | refine AvLe.aggs ?_) <;> first | exact AvLe.refl _ rfl | exact AvLe.nil _ | exact AvLe.znil _ | exact AvLe.list' (by first | (simp [a, b, d, e] <;> omega)) (by simp [a, b, d, e]; done) | exact AvLe.eq (by simp [a, b, d, e]; done) rfl
          · first | (simp [a, b, d, e] <;> omega) | (have hq := e; simp at hq; simp [a, b, d, e, hq]; done) | skip
          · simp
          · simp [a, b, d, e]; rfl
          refine regI_upto 4 (r := ?_) ?_ ?_ ?_
          rotate_left
          · simp [List.range, List.range.loop, a, b, d, e]; rfl
          · first | (simp [a, b, d, e] <;> omega) | (have hq := e; simp at hq; simp [a, b, d, e, hq]; done) | skip
          refine regI_nil ?_
          cases h
          refine Wp.ret (endQ_ret0 rfl ?_)
          repeat' first | exact All2.nil | refine All2.cons ?_ ?_ | refine AvLe.tups ?_ | refine AvLe.aggs ?_
          all_goals first
            | (exact AvLe.refl _ rfl)
            | (exact AvLe.nil _)
            | (exact AvLe.znil _)
            | (exact AvLe.ghost _ rfl)
            | (exact AvLe.zghost _ rfl)
            | (exact AvLe.sl' rfl (by simp [a, b, d, e]; done) (by simp [a, b, d, e]; done))
            | (exact AvLe.frz' rfl rfl rfl (by simp [a, b, d, e]; done) (by simp [a, b, d, e]; done) (by simp [a, b, d, e]; done))
            | (exact AvLe.list' (by simp [a, b, d, e]; done) (by simp [a, b, d, e]; done))
            | (exact AvLe.eq (by simp [a, b, d, e]; done) rfl)
        · rw [if_neg e] at h
          by_cases f : a2.Space = 2
          · rw [if_pos f] at h
            refine regI_upto 4 (r := ?_) ?_ ?_ ?_
            rotate_left
            · simp [List.range, List.range.loop, a, b, d, e, f]; rfl
            · first | (simp [a, b, d, e, f] <;> omega) | (have hq := f; simp at hq; simp [a, b, d, e, f, hq]; done) | skip
            obtain ⟨⟨u, v⟩, j, h⟩ := obind h
            dsimp only at h
            refine regI_call2 (s1 := ?_) (p := ?_) (con_image_Get j) rfl rfl rfl rfl ?_ ?_ ?_ (fun _ => rfl) ?_ rfl ?_ ?_
            rotate_left 2
            · simp [a, b, d, e, f]; rfl
            · first | exact .inl rfl | (refine .inl ?_; simp [a, b, d, e, f]; done) | (refine .inr ?_; dsimp only; repeat' first | exact All2.nil | refine All2.cons ?_ ?_ | exact AvLe.refl _ rfl | refine AvLe.aggs ?_) <;> first | exact AvLe.refl _ rfl | exact AvLe.nil _ | exact AvLe.znil _ | exact AvLe.list' (by first | (simp [a, b, d, e, f] <;> omega)) (by simp [a, b, d, e, f]; done) | exact AvLe.eq (by simp [a, b, d, e, f]; done) rfl
            · first | (simp [a, b, d, e, f] <;> omega) | (have hq := f; simp at hq; simp [a, b, d, e, f, hq]; done) | skip
            · simp
            · simp [a, b, d, e, f]; rfl
            refine regI_upto 4 (r := ?_) ?_ ?_ ?_
            rotate_left
            · simp [List.range, List.range.loop, a, b, d, e, f]; rfl
            · first | (simp [a, b, d, e, f] <;> omega) | (have hq := f; simp at hq; simp [a, b, d, e, f, hq]; done) | skip
            refine regI_nil ?_
            cases h
            refine Wp.ret (endQ_ret0 rfl ?_)
            repeat' first | exact All2.nil | refine All2.cons ?_ ?_ | refine AvLe.tups ?_ | refine AvLe.aggs ?_
            all_goals first
              | (exact AvLe.refl _ rfl)
              | (exact AvLe.nil _)
              | (exact AvLe.znil _)
              | (exact AvLe.ghost _ rfl)
              | (exact AvLe.zghost _ rfl)
              | (exact AvLe.sl' rfl (by simp [a, b, d, e, f]; done) (by simp [a, b, d, e, f]; done))
              | (exact AvLe.frz' rfl rfl rfl (by simp [a, b, d, e, f]; done) (by simp [a, b, d, e, f]; done) (by simp [a, b, d, e, f]; done))
              | (exact AvLe.list' (by simp [a, b, d, e, f]; done) (by simp [a, b, d, e, f]; done))
              | (exact AvLe.eq (by simp [a, b, d, e, f]; done) rfl)
          · rw [if_neg f] at h
            cases h
    · rw [if_pos (decide_eq_true b)] at h
      refine Wp.cond true (by first | (simp [a, b] <;> omega) | (have hq := b; simp at hq; simp [a, b, hq]; done)) (fun _ => ?_) (fun h0 => absurd h0 (by decide))
      refine Wp.reg_seq (own := fun _ => false) tt_ok ?_
      iterate 2
        refine regv_pure (s1 := ?_) rfl rfl ?_ ?_ ?_
        rotate_left
        · simp [a, b]; rfl
        · first | (simp [a, b] <;> omega) | (have hq := b; simp at hq; simp [a, b, hq]; done) | skip
      refine regv_nil ?_
      cases h
      refine Wp.ret (endQ_ret0 rfl ?_)
      repeat' first | exact All2.nil | refine All2.cons ?_ ?_ | refine AvLe.tups ?_ | refine AvLe.aggs ?_
      all_goals first
        | (exact AvLe.refl _ rfl)
        | (exact AvLe.nil _)
        | (exact AvLe.znil _)
        | (exact AvLe.ghost _ rfl)
        | (exact AvLe.zghost _ rfl)
        | (exact AvLe.sl' rfl (by simp [a, b]; done) (by simp [a, b]; done))
        | (exact AvLe.frz' rfl rfl rfl (by simp [a, b]; done) (by simp [a, b]; done) (by simp [a, b]; done))
        | (exact AvLe.list' (by simp [a, b]; done) (by simp [a, b]; done))
        | (exact AvLe.eq (by simp [a, b]; done) rfl)
  · rw [if_pos (decide_eq_true a)] at h
    refine regv_skip (s1 := ?_) ?_ ?_ ?_
    rotate_left
    · simp [a]; done
    · simp [a]; rfl
    refine regv_skip (s1 := ?_) ?_ ?_ ?_
    rotate_left
    · simp [a]; done
    · simp [a]; rfl
    refine regv_skip (s1 := ?_) ?_ ?_ ?_
    rotate_left
    · simp [a]; done
    · simp [a]; rfl
    iterate 1
      refine regv_pure (s1 := ?_) rfl rfl ?_ ?_ ?_
      rotate_left
      · simp [a]; rfl
      · first | (simp [a] <;> omega) | (have hq := a; simp at hq; simp [a, hq]; done) | skip
    refine regv_nil ?_
    refine Wp.cond true (by first | (simp [a] <;> omega) | (have hq := a; simp at hq; simp [a, hq]; done)) (fun _ => ?_) (fun h0 => absurd h0 (by decide))
    refine Wp.reg_seq (own := fun _ => false) tt_ok ?_
    iterate 2
      refine regv_pure (s1 := ?_) rfl rfl ?_ ?_ ?_
      rotate_left
      · simp [a]; rfl
      · first | (simp [a] <;> omega) | (have hq := a; simp at hq; simp [a, hq]; done) | skip
    refine regv_nil ?_
    cases h
    refine Wp.ret (endQ_ret0 rfl ?_)
    repeat' first | exact All2.nil | refine All2.cons ?_ ?_ | refine AvLe.tups ?_ | refine AvLe.aggs ?_
    all_goals first
      | (exact AvLe.refl _ rfl)
      | (exact AvLe.nil _)
      | (exact AvLe.znil _)
      | (exact AvLe.ghost _ rfl)
      | (exact AvLe.zghost _ rfl)
      | (exact AvLe.sl' rfl (by simp [a]; done) (by simp [a]; done))
      | (exact AvLe.frz' rfl rfl rfl (by simp [a]; done) (by simp [a]; done) (by simp [a]; done))
      | (exact AvLe.list' (by simp [a]; done) (by simp [a]; done))
      | (exact AvLe.eq (by simp [a]; done) rfl)

theorem con_slices_Clone_bool {n : Nat} {s0 : List Bool} {r : (List Bool)} (h : slices_Clone_bool n s0 = some r) : Con Try.prog 39 [aL cB s0] (aL cB r) [] := by
  refine con_of (T := TT0) tt_ok Try.func39 (c := _) (by unfold Try.f39; rfl) Try.ntmps39 (rs := [.tmp 2]) (by rw [Try.results39]) (by unfold Try.f39; rfl) (by simp) ?_
  simp only [argsCh]
  dsimp only [slices_Clone_bool] at h
  refine Wp.reg_seq (own := fun _ => false) tt_ok ?_
  iterate 1
    refine regv_pure (s1 := ?_) rfl rfl ?_ ?_ ?_
    rotate_left
    · simp []; rfl
    · first | (simp [] <;> omega) | skip
  refine regv_nil ?_
  refine Wp.seq ?_
  refine Wp.reg_seq (own := fun _ => false) tt_ok ?_
  iterate 1
    refine regv_pure (s1 := ?_) rfl rfl ?_ ?_ ?_
    rotate_left
    · simp []; rfl
    · first | (simp [] <;> omega) | skip
  refine regv_isnil rfl (.inl rfl) rfl rfl rfl rfl rfl fun d b => ?_
  refine ⟨_, rfl, ?_⟩
  cases d
  · replace h := isnil_f h
    clear b
    simp only [reduceCtorEq, if_true, if_false, Bool.not_true, Bool.not_false]
    refine regv_nil ?_
    refine Wp.cond false (by first | (simp [] <;> omega)) (fun h0 => absurd h0 (by decide)) (fun _ => ?_)
    refine Wp.skip ?_
    show Wp _ _ _ _
    refine Wp.reg_seq (own := fun _ => false) tt_ok ?_
    iterate 2
      refine regv_pure (s1 := ?_) rfl rfl ?_ ?_ ?_
      rotate_left
      · simp []; rfl
      · first | (simp [] <;> omega) | skip
    obtain ⟨a, h⟩ := oguard h
    iterate 2
      refine regv_pure (s1 := ?_) rfl rfl ?_ ?_ ?_
      rotate_left
      · simp [a]; rfl
      · first | (simp [a] <;> omega) | (have hq := a; simp at hq; simp [a, hq]; done) | skip
    refine regv_nil ?_
    cases h
    refine Wp.ret (endQ_ret0 rfl ?_)
    repeat' first | exact All2.nil | refine All2.cons ?_ ?_ | refine AvLe.tups ?_ | refine AvLe.aggs ?_
    all_goals first
      | (exact AvLe.refl _ rfl)
      | (exact AvLe.nil _)
      | (exact AvLe.znil _)
      | (exact AvLe.ghost _ rfl)
      | (exact AvLe.zghost _ rfl)
      | (exact AvLe.sl' rfl (by simp [a]; done) (by simp [a]; done))
      | (exact AvLe.frz' rfl rfl rfl (by simp [a]; done) (by simp [a]; done) (by simp [a]; done))
      | (exact AvLe.list' (by simp [a]; done) (by simp [a]; done))
      | (exact AvLe.eq (by simp [a]; done) rfl)
  · replace h := isnil_t (b rfl) h
    simp only [reduceCtorEq, if_true, if_false, Bool.not_true, Bool.not_false]
    refine regv_nil ?_
    refine Wp.cond true (by first | (simp [] <;> omega)) (fun _ => ?_) (fun h0 => absurd h0 (by decide))
    refine Wp.reg_seq (own := fun _ => false) tt_ok ?_
    iterate 1
      refine regv_pure (s1 := ?_) rfl rfl ?_ ?_ ?_
      rotate_left
      · simp []; rfl
      · first | (simp [] <;> omega) | skip
    refine regv_nil ?_
    cases h
    refine Wp.ret (endQ_ret0 rfl ?_)
    repeat' first | exact All2.nil | refine All2.cons ?_ ?_ | refine AvLe.tups ?_ | refine AvLe.aggs ?_
    all_goals first
      | (exact AvLe.refl _ rfl)
      | (exact AvLe.nil _)
      | (exact AvLe.znil _)
      | (exact AvLe.ghost _ rfl)
      | (exact AvLe.zghost _ rfl)
      | (exact AvLe.sl' rfl (by simp []; done) (by simp []; done))
      | (exact AvLe.frz' rfl rfl rfl (by simp []; done) (by simp []; done) (by simp []; done))
      | (exact AvLe.list' (by simp []; done) (by simp []; done))
      | (exact AvLe.eq (by simp []; done) rfl)

theorem con_slices_Clone_bool_o0 {n : Nat} {s0 : List Bool} {r : (List Bool)} (h : slices_Clone_bool_o0 n s0 = some r) : Con Try.prog 39 [aL cB s0] (.sl 0 0 r.length) [.arr 1 r.length (rw (r.map cB))] := by
  refine con_of (T := TT0) tt_ok Try.func39 (c := _) (by unfold Try.f39; rfl) Try.ntmps39 (rs := [.tmp 2]) (by rw [Try.results39]) (by unfold Try.f39; rfl) (by simp) ?_
  simp only [argsCh]
  dsimp only [slices_Clone_bool_o0] at h
  refine Wp.reg_seq (own := fun _ => false) tt_ok ?_
  iterate 1
    refine regv_pure (s1 := ?_) rfl rfl ?_ ?_ ?_
    rotate_left
    · simp []; rfl
    · first | (simp [] <;> omega) | skip
  refine regv_nil ?_
  refine Wp.seq ?_
  refine Wp.reg_seq (own := fun _ => false) tt_ok ?_
  iterate 1
    refine regv_pure (s1 := ?_) rfl rfl ?_ ?_ ?_
    rotate_left
    · simp []; rfl
    · first | (simp [] <;> omega) | skip
  refine regv_isnil rfl (.inl rfl) rfl rfl rfl rfl rfl fun e b => ?_
  refine ⟨_, rfl, ?_⟩
  cases e
  · replace h := isnil_f h
    clear b
    simp only [reduceCtorEq, if_true, if_false, Bool.not_true, Bool.not_false]
    refine regv_nil ?_
    refine Wp.cond false (by first | (simp [] <;> omega)) (fun h0 => absurd h0 (by decide)) (fun _ => ?_)
    refine Wp.skip ?_
    show Wp _ _ _ _
    refine Wp.reg_seq (own := fun d => Nat.beq d 7) tt_ok ?_
    iterate 2
      refine regv_pure (s1 := ?_) rfl rfl ?_ ?_ ?_
      rotate_left
      · simp []; rfl
      · first | (simp [] <;> omega) | skip
    obtain ⟨a, h⟩ := oguard h
    iterate 2
      refine regv_pure (s1 := ?_) rfl rfl ?_ ?_ ?_
      rotate_left
      · simp [a]; rfl
      · first | (simp [a] <;> omega) | (have hq := a; simp at hq; simp [a, hq]; done) | skip
    refine regv_nil ?_
    cases h
    refine Wp.ret (endQ_ret2 [some 0] rfl rfl (by decide) ?_ ?_)
    · repeat' first | exact objsLe_nil | refine objsLe_cons ?_ ?_
      all_goals first
        | (exact ObjLe.ghost' rfl (by decide))
        | (exact ObjLe.arr' rfl rfl (by first | (simp [a] <;> omega)) (fun _ _ => by first | rfl | (simp [a]; done)))
        | ((simp [a]; done))
    repeat' first | exact All2.nil | refine All2.cons ?_ ?_ | refine AvLe.tups ?_ | refine AvLe.aggs ?_
    all_goals first
      | (exact AvLe.refl _ rfl)
      | (exact AvLe.nil _)
      | (exact AvLe.znil _)
      | (exact AvLe.ghost _ rfl)
      | (exact AvLe.zghost _ rfl)
      | (exact AvLe.sl' rfl (by simp [a]; done) (by simp [a]; done))
      | (exact AvLe.frz2 rfl (by simp) rfl (by simp [a]; done) (by simp [a]; done) (by simp [a]; done))
      | (exact AvLe.list' (by simp [a]; done) (by simp [a]; done))
      | (exact AvLe.eq (by simp [a]; done) rfl)
  · replace h := isnil_t (b rfl) h
    simp only [reduceCtorEq, if_true, if_false, Bool.not_true, Bool.not_false]
    refine regv_nil ?_
    refine Wp.cond true (by first | (simp [] <;> omega)) (fun _ => ?_) (fun h0 => absurd h0 (by decide))
    refine Wp.reg_seq (own := fun _ => false) tt_ok ?_
    iterate 1
      refine regv_pure (s1 := ?_) rfl rfl ?_ ?_ ?_
      rotate_left
      · simp []; rfl
      · first | (simp [] <;> omega) | skip
    refine regv_nil ?_
    cases h
    refine Wp.ret (endQ_ret2 [none] rfl rfl (by decide) ?_ ?_)
    · repeat' first | exact objsLe_nil | refine objsLe_cons ?_ ?_
      all_goals first
        | (exact ObjLe.ghost' rfl (by decide))
        | (exact ObjLe.arr' rfl rfl (by first | (simp [] <;> omega)) (fun _ _ => by first | rfl | (simp []; done)))
        | ((simp []; done))
    repeat' first | exact All2.nil | refine All2.cons ?_ ?_ | refine AvLe.tups ?_ | refine AvLe.aggs ?_
    all_goals first
      | (exact AvLe.refl _ rfl)
      | (exact AvLe.nil _)
      | (exact AvLe.znil _)
      | (exact AvLe.ghost _ rfl)
      | (exact AvLe.zghost _ rfl)
      | (exact AvLe.sl' rfl (by simp []; done) (by simp []; done))
      | (exact AvLe.frz2 rfl (by simp) rfl (by simp []; done) (by simp []; done) (by simp []; done))
      | (exact AvLe.list' (by simp []; done) (by simp []; done))
      | (exact AvLe.eq (by simp []; done) rfl)

theorem con_state_Clone_o2 {n : Nat} {st0 : ApiState} {r : ApiState} (h : state_Clone_o2 n st0 = some r) : Con Try.prog 29 [.agg (cApiState st0)] (.agg [aL cB r.Q, aL cB r.M, .sl 0 0 r.E.length]) [.arr 1 r.E.length (rw (r.E.map cB))] := by
  refine con_of (T := TT0) tt_ok Try.func29 (c := _) (by unfold Try.f29; rfl) Try.ntmps29 (rs := [.cell 2 36]) (by rw [Try.results29]) (by unfold Try.f29; rfl) (by simp) ?_
  simp only [argsCh]
  dsimp only [state_Clone_o2] at h
  refine Wp.reg_seq (own := fun _ => false) tt_ok ?_
  iterate 2
    refine regv_pure (s1 := ?_) rfl rfl ?_ ?_ ?_
    rotate_left
    · simp []; rfl
    · first | (simp [] <;> omega) | skip
  refine regv_nil ?_
  refine Wp.drawn (own := fun d => Nat.beq d 11) tt_ok mixed [0] (by decide +kernel) trivial ?_
  refine regI_upto 2 (r := ?_) ?_ ?_ ?_
  rotate_left
  · simp [List.range, List.range.loop]; rfl
  · first | (simp [] <;> omega) | skip
  obtain ⟨f, a, h⟩ := obind h
  refine regI_call2 (s1 := ?_) (p := ?_) (con_slices_Clone_bool a) rfl rfl rfl rfl ?_ ?_ ?_ (fun _ => rfl) ?_ rfl ?_ ?_
  rotate_left 2
  · simp []; rfl
  · first | exact .inl rfl | (refine .inl ?_; simp []; done) | (refine .inr ?_; dsimp only; repeat' first | exact All2.nil | refine All2.cons ?_ ?_ | exact AvLe.refl _ rfl | refine AvLe.aggs ?_) <;> first | exact AvLe.refl _ rfl | exact AvLe.nil _ | exact AvLe.znil _ | exact AvLe.list' (by first | (simp [] <;> omega)) (by simp []; done) | exact AvLe.eq (by simp []; done) rfl
  · first | (simp [] <;> omega) | skip
  · simp
  · simp []; rfl
  refine regI_upto 2 (r := ?_) ?_ ?_ ?_
  rotate_left
  · simp [List.range, List.range.loop]; rfl
  · first | (simp [] <;> omega) | skip
  obtain ⟨g, b, h⟩ := obind h
  refine regI_call2 (s1 := ?_) (p := ?_) (con_slices_Clone_bool b) rfl rfl rfl rfl ?_ ?_ ?_ (fun _ => rfl) ?_ rfl ?_ ?_
  rotate_left 2
  · simp []; rfl
  · first | exact .inl rfl | (refine .inl ?_; simp []; done) | (refine .inr ?_; dsimp only; repeat' first | exact All2.nil | refine All2.cons ?_ ?_ | exact AvLe.refl _ rfl | refine AvLe.aggs ?_) <;> first | exact AvLe.refl _ rfl | exact AvLe.nil _ | exact AvLe.znil _ | exact AvLe.list' (by first | (simp [] <;> omega)) (by simp []; done) | exact AvLe.eq (by simp []; done) rfl
  · first | (simp [] <;> omega) | skip
  · simp
  · simp []; rfl
  refine regI_upto 2 (r := ?_) ?_ ?_ ?_
  rotate_left
  · simp [List.range, List.range.loop]; rfl
  · first | (simp [] <;> omega) | skip
  obtain ⟨i, e, h⟩ := obind h
  refine regI_ecall2 (s1 := ?_) (p := ?_) (con_slices_Clone_bool_o0 e) rfl rfl rfl rfl ?_ ?_ ?_ ?_ ?_ ?_ ?_
  rotate_left 2
  · simp []; rfl
  · first | exact .inl rfl | (refine .inl ?_; simp []; done) | (refine .inr ?_; dsimp only; repeat' first | exact All2.nil | refine All2.cons ?_ ?_ | exact AvLe.refl _ rfl | refine AvLe.aggs ?_) <;> first | exact AvLe.refl _ rfl | exact AvLe.nil _ | exact AvLe.znil _ | exact AvLe.list' (by first | (simp [] <;> omega)) (by simp []; done) | exact AvLe.eq (by simp []; done) rfl
  · first | (simp [] <;> omega) | skip
  · simp
  · simp
  · simp []; rfl
  refine regI_upto 1 (r := ?_) ?_ ?_ ?_
  rotate_left
  · simp [List.range, List.range.loop]; rfl
  · first | (simp [] <;> omega) | skip
  refine regI_bar (r := ?_) tt_ok rfl rfl rfl rfl ?_ ?_ ?_
  rotate_left
  · simp []; rfl
  · first | (simp [] <;> omega) | skip
  refine regI_nil ?_
  cases h
  refine Wp.ret (endQ_ret2 [some 2] rfl rfl (by decide) ?_ ?_)
  · repeat' first | exact objsLe_nil | refine objsLe_cons ?_ ?_
    all_goals first
      | (exact ObjLe.ghost' rfl (by decide))
      | (exact ObjLe.arr' rfl rfl (by first | (simp [] <;> omega)) (fun _ _ => by first | rfl | (simp []; done)))
      | ((simp []; done))
  repeat' first | exact All2.nil | refine All2.cons ?_ ?_ | refine AvLe.tups ?_ | refine AvLe.aggs ?_
  all_goals first
    | (exact AvLe.refl _ rfl)
    | (exact AvLe.nil _)
    | (exact AvLe.znil _)
    | (exact AvLe.ghost _ rfl)
    | (exact AvLe.zghost _ rfl)
    | (exact AvLe.sl' rfl (by simp []; done) (by simp []; done))
    | (exact AvLe.frz2 rfl (by simp) rfl (by simp []; done) (by simp []; done) (by simp []; done))
    | (exact AvLe.list' (by simp []; done) (by simp []; done))
    | (exact AvLe.eq (by simp []; done) rfl)

def rungeval_Contacts_S1 (n : Nat) (_append0 : ApiRung) (a1 : List Bool) (a2 : ApiState) (au : ApiState) (ay : Int) (az : List Bool) (av : List Bool) (aw : Int) : St :=
  { ch := [(1, aL cB a1), (3, .int .i64 ay), (6, .hptr 0 0 0), (9, .hptr 1 0 0), (11, .hptr 2 0 0), (12, .sl 4 0 av.length), (25, aL cApiContact _append0.Contacts), (26, .int .i64 (_append0.Contacts.length : Int)), (27, .int .i64 aw)], hp := [.var [aL cB a2.Q, aL cB a2.M, aL cB a2.E], .var [.nilsl, .nilsl, .nilsl], .var [aL cB au.Q, aL cB au.M, .sl 3 0 az.length], .arr 1 az.length (rw (az.map cB)), .arr 1 av.length (rw (av.map cB))], base := 0, n := 88, cond := True }

def rungeval_Contacts_S2 (n : Nat) (_append0 : ApiRung) (a1 : List Bool) (a2 : ApiState) (au : ApiState) (av : List Bool) (aw : Int) (aq : ApiContact) (bb : Bool) (ba : List Bool) (bg : Bool) (bf : Int) : St :=
  { ch := [(1, aL cB a1), (3, .int .i64 bf), (6, .hptr 0 0 0), (9, .hptr 1 0 0), (11, .hptr 2 0 0), (12, .sl 4 0 av.length), (13, .int .i64 aw), (14, .hptr 5 0 0), (15, .bool bb), (17, .bool bg), (25, aL cApiContact _append0.Contacts), (26, .int .i64 (_append0.Contacts.length : Int)), (27, .int .i64 aw), (36, .hptr 5 0 0), (37, .int .i64 aq.Kind), (38, .bool (decide (aq.Kind ≥ 4)))], hp := [.var [aL cB a2.Q, aL cB a2.M, aL cB a2.E], .var [.nilsl, .nilsl, .nilsl], .var [aL cB au.Q, aL cB au.M, .sl 3 0 ba.length], .arr 1 ba.length (rw (ba.map cB)), .arr 1 av.length (rw (av.map cB)), .var [.int .i64 aq.Kind, .int .i64 aq.A.Space, .int .i64 aq.A.N, .str aq.From, .str aq.To]], base := 0, n := 88, cond := True }

theorem con_rungeval_Contacts {n : Nat} {_append0 : ApiRung} {a1 : List Bool} {a2 : ApiState} {a3 : Int} {r : (List Bool) × ApiState × Int} (h : rungeval_Contacts n _append0 a1 a2 a3 = some r) : Con Try.prog 21 [.agg (cApiRung _append0), aL cB a1, .agg (cApiState a2), .int .i64 a3] (.tup [aL cB r.1, .agg (cApiState r.2.1), .int .i64 r.2.2]) [] := by
  refine con_of (T := TT0) tt_ok Try.func21 (c := _) (by unfold Try.f21; rfl) Try.ntmps21 (rs := [.tmp 8, .cell 9 36, .tmp 10]) (by rw [Try.results21]) (by unfold Try.f21; rfl) (by simp) ?_
  simp only [argsCh]
  dsimp only [rungeval_Contacts] at h
  refine Wp.reg_seq (own := fun _ => false) tt_ok ?_
  iterate 5
    refine regv_pure (s1 := ?_) rfl rfl ?_ ?_ ?_
    rotate_left
    · simp []; rfl
    · first | (simp [] <;> omega) | skip
  refine regv_nil ?_
  refine Wp.reg_seq (own := fun d => Nat.beq d 19) tt_ok ?_
  iterate 1
    refine regv_pure (s1 := ?_) rfl rfl ?_ ?_ ?_
    rotate_left
    · simp []; rfl
    · first | (simp [] <;> omega) | skip
  obtain ⟨au, bi, h⟩ := obind h
  refine regv_call2 (s' := ?_) (p := ?_) (con_state_Clone_o2 bi) rfl rfl rfl rfl ?_ ?_ ?_ ?_ ?_ ?_
  rotate_left 2
  · simp []; rfl
  · first | exact .inl rfl | (refine .inl ?_; simp []; done) | (refine .inr ?_; dsimp only; repeat' first | exact All2.nil | refine All2.cons ?_ ?_ | exact AvLe.refl _ rfl | refine AvLe.aggs ?_) <;> first | exact AvLe.refl _ rfl | exact AvLe.nil _ | exact AvLe.znil _ | exact AvLe.list' (by first | (simp [] <;> omega)) (by simp []; done) | exact AvLe.eq (by simp []; done) rfl
  · first | (simp [] <;> omega) | skip
  · simp
  · simp []; rfl
  iterate 2
    refine regv_pure (s1 := ?_) rfl rfl ?_ ?_ ?_
    rotate_left
    · simp []; rfl
    · first | (simp [] <;> omega) | skip
  refine regv_nil ?_
  refine Wp.reg_seq (own := fun _ => false) tt_ok ?_
  iterate 3
    refine regv_pure (s1 := ?_) rfl rfl ?_ ?_ ?_
    rotate_left
    · simp []; rfl
    · first | (simp [] <;> omega) | skip
  obtain ⟨⟨b, e, a⟩, h⟩ := oguard h
  iterate 1
    refine regv_pure (s1 := ?_) rfl rfl ?_ ?_ ?_
    rotate_left
    · simp [b, e, a]; rfl
    · first | (simp [b, e, a] <;> omega) | (have hq := a; simp at hq; simp [b, e, a, hq]; done) | skip
  obtain ⟨bu, bc, h⟩ := obind h
  have g := congrArg (List.map cB) (Option.some.inj bc)
  have f := (congrArg List.length (Option.some.inj bc)).symm
  try simp [b, e, a] at g
  try simp [b, e, a] at f
  clear bc
  try simp only [g]
  iterate 1
    refine regv_pure (s1 := ?_) rfl rfl ?_ ?_ ?_
    rotate_left
    · simp [b, e, a, g, f]; rfl
    · first | (simp [b, e, a, g, f] <;> omega) | (have hq := f; simp at hq; simp [b, e, a, g, f, hq]; done) | skip
  refine regv_nil ?_
  refine Wp.seq ?_
  refine Wp.reg_seq (own := fun _ => false) tt_ok ?_
  iterate 4
    refine regv_pure (s1 := ?_) rfl rfl ?_ ?_ ?_
    rotate_left
    · simp [b, e, a, g, f]; rfl
    · first | (simp [b, e, a, g, f] <;> omega) | (have hq := f; simp at hq; simp [b, e, a, g, f, hq]; done) | skip
  refine regv_nil ?_
  refine Wp.block ?_
  refine Wp.loopF (α := Int × (List Bool) × (List Bool) × Int) (fun x => rungeval_Contacts_S1 n _append0 a1 a2 au x.1 x.2.1 x.2.2.1 x.2.2.2) (fun m x => rungeval_Contacts_L1 n _append0 a1 a2 au m x.1 x.2.1 x.2.2.1 x.2.2.2 = some r) (fun _ h => by cases h) ?_ n (a3, au.E, bu, 0) h ?_
  rotate_left
  · simp only [rungeval_Contacts_S1]
    refine Reloc.mk2 [some 1, some 2, some 4, some 3, some 5] rfl rfl rfl (by decide) ?_ ?_
    · repeat' first | exact objsLe_nil | refine objsLe_cons ?_ ?_
      all_goals first
        | exact trivial
        | (refine ObjLe.var' rfl rfl ?_ rfl
           repeat' first | exact All2.nil | refine All2.cons ?_ ?_
           all_goals first | (exact AvLe.refl _ rfl) | (exact AvLe.sl _ _ _ _ rfl) | (exact AvLe.hptr _ _ _ _ rfl) | (exact AvLe.mp _ _ rfl) | (exact AvLe.nil _) | (exact AvLe.znil _) | (exact AvLe.ghost _ rfl) | (exact AvLe.zghost _ rfl) | (exact AvLe.sl' rfl (by simp [b, e, a, g, f]; done) (by first | (simp [b, e, a, g, f] <;> omega) | omega)) | (exact AvLe.frz2 rfl (by simp) rfl (by simp [b, e, a, g, f]; done) (by simp [b, e, a, g, f]; done) (by simp [b, e, a, g, f]; done)) | (exact AvLe.list' (by simp [b, e, a, g, f]; done) (by simp [b, e, a, g, f]; done)) | (exact AvLe.eq (by simp [b, e, a, g, f]; done) rfl))
        | (exact ObjLe.map' rfl rfl)
        | (exact ObjLe.map2 rfl rfl (by first | (simp [b, e, a, g, f]; done) | (simp [b, e, a, g, f]; rfl)))
        | (exact ObjLe.slot' rfl)
        | (exact ObjLe.ghost' rfl (by decide))
        | (exact ObjLe.arr' rfl rfl (by first | (simp [b, e, a, g, f] <;> omega)) (fun _ _ => by first | rfl | (simp [b, e, a, g, f]; done)))
        | ((simp [b, e, a, g, f]; done))
    · repeat' first | exact chLe_nil | refine chLe_cons ?_ ?_ | exact AvLe.refl _ rfl | refine AvLe.aggs ?_ | exact All2.nil | refine All2.cons ?_ ?_
      all_goals first
        | (exact AvLe.refl _ rfl)
        | (exact AvLe.sl _ _ _ _ rfl)
        | (exact AvLe.hptr _ _ _ _ rfl)
        | (exact AvLe.mp _ _ rfl)
        | (exact AvLe.nil _)
        | (exact AvLe.znil _)
        | (exact AvLe.ghost _ rfl)
        | (exact AvLe.zghost _ rfl)
        | (exact AvLe.sl' rfl (by simp [b, e, a, g, f]; done) (by first | (simp [b, e, a, g, f] <;> omega) | omega))
        | (exact AvLe.frz2 rfl (by simp) rfl (by simp [b, e, a, g, f]; done) (by simp [b, e, a, g, f]; done) (by simp [b, e, a, g, f]; done))
        | (exact AvLe.list' (by simp [b, e, a, g, f]; done) (by simp [b, e, a, g, f]; done))
        | (exact AvLe.eq (by simp [b, e, a, g, f]; done) rfl)
  rintro rec_n1 ⟨ay, az, av, aw⟩ h
  simp only [rungeval_Contacts_S1]
  dsimp only [rungeval_Contacts_L1] at h
  refine Wp.reg_seq (own := fun _ => false) tt_ok ?_
  iterate 1
    refine regv_pure (s1 := ?_) rfl rfl ?_ ?_ ?_
    rotate_left
    · simp [b, e, a, g, f]; rfl
    · first | (simp [b, e, a, g, f] <;> omega) | (have hq := f; simp at hq; simp [b, e, a, g, f, hq]; done) | skip
  refine regv_nil ?_
  refine Wp.seq ?_
  refine (Decidable.em (aw < (_append0.Contacts.length : Int))).symm.elim (fun q => ?_) (fun q => ?_)
  · rw [if_neg (by simpa using q)] at h
    refine Wp.cond false (by first | (simp [b, e, a, g, f, q] <;> omega) | (have hq := q; simp at hq; simp [b, e, a, g, f, q, hq]; done)) (fun h0 => absurd h0 (by decide)) (fun _ => ?_)
    refine Wp.exit ?_
    show Wp _ _ _ _
    refine Wp.drawn (own := fun _ => false) tt_ok mixed [2, 3, 4] (by decide +kernel) trivial ?_
    refine regI_upto 3 (r := ?_) ?_ ?_ ?_
    rotate_left
    · simp [List.range, List.range.loop, b, e, a, g, f, q]; rfl
    · first | (simp [b, e, a, g, f, q] <;> omega) | (have hq := q; simp at hq; simp [b, e, a, g, f, q, hq]; done) | skip
    refine regI_bar (r := ?_) tt_ok rfl rfl rfl rfl ?_ ?_ ?_
    rotate_left
    · simp [b, e, a, g, f, q]; rfl
    · first | (simp [b, e, a, g, f, q] <;> omega) | (have hq := q; simp at hq; simp [b, e, a, g, f, q, hq]; done) | skip
    refine regI_upto 1 (r := ?_) ?_ ?_ ?_
    rotate_left
    · simp [List.range, List.range.loop, b, e, a, g, f, q]; rfl
    · first | (simp [b, e, a, g, f, q] <;> omega) | (have hq := q; simp at hq; simp [b, e, a, g, f, q, hq]; done) | skip
    refine regI_nil ?_
    cases h
    refine Wp.ret (endQ_ret0 rfl ?_)
    repeat' first | exact All2.nil | refine All2.cons ?_ ?_ | refine AvLe.tups ?_ | refine AvLe.aggs ?_
    all_goals first
      | (exact AvLe.refl _ rfl)
      | (exact AvLe.nil _)
      | (exact AvLe.znil _)
      | (exact AvLe.ghost _ rfl)
      | (exact AvLe.zghost _ rfl)
      | (exact AvLe.sl' rfl (by simp [b, e, a, g, f, q]; done) (by simp [b, e, a, g, f, q]; done))
      | (exact AvLe.frz' rfl rfl rfl (by simp [b, e, a, g, f, q]; done) (by simp [b, e, a, g, f, q]; done) (by simp [b, e, a, g, f, q]; done))
      | (exact AvLe.list' (by simp [b, e, a, g, f, q]; done) (by simp [b, e, a, g, f, q]; done))
      | (exact AvLe.eq (by simp [b, e, a, g, f, q]; done) rfl)
  · rw [if_pos (decide_eq_true q)] at h
    refine Wp.cond true (by first | (simp [b, e, a, g, f, q] <;> omega) | (have hq := q; simp at hq; simp [b, e, a, g, f, q, hq]; done)) (fun _ => ?_) (fun h0 => absurd h0 (by decide))
    refine Wp.skip ?_
    show Wp _ _ _ _
    refine Wp.seq ?_
    refine Wp.block ?_
    refine Wp.reg_seq (own := fun _ => false) tt_ok ?_
    iterate 1
      refine regv_pure (s1 := ?_) rfl rfl ?_ ?_ ?_
      rotate_left
      · simp [b, e, a, g, f, q]; rfl
      · first | (simp [b, e, a, g, f, q] <;> omega) | (have hq := q; simp at hq; simp [b, e, a, g, f, q, hq]; done) | skip
    obtain ⟨aq, bj, h⟩ := obind h
    obtain ⟨o, k, i⟩ := atI_some bj
    try simp [b, e, a, g, f, q] at k
    try simp only [Int.toNat_natCast, Int.reduceToNat, Nat.zero_add, Nat.add_zero] at i
    have j := getElem_of i
    iterate 5
      refine regv_pure (s1 := ?_) rfl rfl ?_ ?_ ?_
      rotate_left
      · simp [b, e, a, g, f, q, o, k, i, j]; rfl
      · first | (simp [b, e, a, g, f, q, o, k, i, j] <;> omega) | (have hq := j; simp at hq; simp [b, e, a, g, f, q, o, k, i, j, hq]; done) | skip
    refine regv_nil ?_
    refine Wp.seq ?_
    refine Wp.reg_seq (own := fun _ => false) tt_ok ?_
    iterate 4
      refine regv_pure (s1 := ?_) rfl rfl ?_ ?_ ?_
      rotate_left
      · simp [b, e, a, g, f, q, o, k, i, j]; rfl
      · first | (simp [b, e, a, g, f, q, o, k, i, j] <;> omega) | (have hq := j; simp at hq; simp [b, e, a, g, f, q, o, k, i, j, hq]; done) | skip
    refine (Decidable.em (aq.Kind < 0)).symm.elim (fun u => ?_) (fun u => ?_)
    · rw [if_neg (by simpa using u)] at h
      refine regv_pure (s1 := ?_) rfl ?_ ?_ ?_ ?_
      rotate_left
      · simp [b, e, a, g, f, q, o, k, i, j, u]; done
      · simp [b, e, a, g, f, q, o, k, i, j, u]; rfl
      · first | (simp [b, e, a, g, f, q, o, k, i, j, u] <;> omega) | (have hq := u; simp at hq; simp [b, e, a, g, f, q, o, k, i, j, u, hq]; done) | skip
      refine regv_pure (s1 := ?_) rfl ?_ ?_ ?_ ?_
      rotate_left
      · simp [b, e, a, g, f, q, o, k, i, j, u]; done
      · simp [b, e, a, g, f, q, o, k, i, j, u]; rfl
      · first | (simp [b, e, a, g, f, q, o, k, i, j, u] <;> omega) | (have hq := u; simp at hq; simp [b, e, a, g, f, q, o, k, i, j, u, hq]; done) | skip
      refine regv_pure (s1 := ?_) rfl ?_ ?_ ?_ ?_
      rotate_left
      · simp [b, e, a, g, f, q, o, k, i, j, u]; done
      · simp [b, e, a, g, f, q, o, k, i, j, u]; rfl
      · first | (simp [b, e, a, g, f, q, o, k, i, j, u] <;> omega) | (have hq := u; simp at hq; simp [b, e, a, g, f, q, o, k, i, j, u, hq]; done) | skip
      iterate 1
        refine regv_pure (s1 := ?_) rfl rfl ?_ ?_ ?_
        rotate_left
        · simp [b, e, a, g, f, q, o, k, i, j, u]; rfl
        · first | (simp [b, e, a, g, f, q, o, k, i, j, u] <;> omega) | (have hq := u; simp at hq; simp [b, e, a, g, f, q, o, k, i, j, u, hq]; done) | skip
      refine regv_nil ?_
      refine (Decidable.em (aq.Kind ≥ 4)).symm.elim (fun v => ?_) (fun v => ?_)
      · rw [if_neg (by simpa using v)] at h
        refine Wp.cond false (by first | (simp [b, e, a, g, f, q, o, k, i, j, u, v] <;> omega) | (have hq := v; simp at hq; simp [b, e, a, g, f, q, o, k, i, j, u, v, hq]; done)) (fun h0 => absurd h0 (by decide)) (fun _ => ?_)
        refine Wp.skip ?_
        show Wp _ _ _ _
        refine Wp.reg_seq (own := fun _ => false) tt_ok ?_
        iterate 4
          refine regv_pure (s1 := ?_) rfl rfl ?_ ?_ ?_
          rotate_left
          · simp [b, e, a, g, f, q, o, k, i, j, u, v]; rfl
          · first | (simp [b, e, a, g, f, q, o, k, i, j, u, v] <;> omega) | (have hq := v; simp at hq; simp [b, e, a, g, f, q, o, k, i, j, u, v, hq]; done) | skip
        obtain ⟨⟨bb, bv⟩, bk, h⟩ := obind h
        dsimp only at h
        refine regv_call2 (s' := ?_) (p := ?_) (con_state_Read bk) rfl rfl rfl rfl ?_ ?_ ?_ ?_ ?_ ?_
        rotate_left 2
        · simp [b, e, a, g, f, q, o, k, i, j, u, v]; rfl
        · first | exact .inl rfl | (refine .inl ?_; simp [b, e, a, g, f, q, o, k, i, j, u, v]; done) | (refine .inr ?_; dsimp only; repeat' first | exact All2.nil | refine All2.cons ?_ ?_ | exact AvLe.refl _ rfl | refine AvLe.aggs ?_) <;> first | exact AvLe.refl _ rfl | exact AvLe.nil _ | exact AvLe.znil _ | exact AvLe.list' (by first | (simp [b, e, a, g, f, q, o, k, i, j, u, v] <;> omega)) (by simp [b, e, a, g, f, q, o, k, i, j, u, v]; done) | exact AvLe.eq (by simp [b, e, a, g, f, q, o, k, i, j, u, v]; done) rfl
        · first | (simp [b, e, a, g, f, q, o, k, i, j, u, v] <;> omega) | (have hq := v; simp at hq; simp [b, e, a, g, f, q, o, k, i, j, u, v, hq]; done) | skip
        · simp
        · simp [b, e, a, g, f, q, o, k, i, j, u, v]; rfl
        iterate 5
          refine regv_pure (s1 := ?_) rfl rfl ?_ ?_ ?_
          rotate_left
          · simp [b, e, a, g, f, q, o, k, i, j, u, v]; rfl
          · first | (simp [b, e, a, g, f, q, o, k, i, j, u, v] <;> omega) | (have hq := v; simp at hq; simp [b, e, a, g, f, q, o, k, i, j, u, v, hq]; done) | skip
        refine regv_nil ?_
        refine Wp.seq ?_
        refine Wp.reg_seq (own := fun _ => false) tt_ok ?_
        iterate 2
          refine regv_pure (s1 := ?_) rfl rfl ?_ ?_ ?_
          rotate_left
          · simp [b, e, a, g, f, q, o, k, i, j, u, v]; rfl
          · first | (simp [b, e, a, g, f, q, o, k, i, j, u, v] <;> omega) | (have hq := v; simp at hq; simp [b, e, a, g, f, q, o, k, i, j, u, v, hq]; done) | skip
        refine regv_nil ?_
        cases w : (bv != 0)
        · rw [w, if_neg (by simp)] at h
          refine Wp.cond false (by first | (simp [b, e, a, g, f, q, o, k, i, j, u, v, w] <;> omega) | (have hq := w; simp at hq; simp [b, e, a, g, f, q, o, k, i, j, u, v, w, hq]; done)) (fun h0 => absurd h0 (by decide)) (fun _ => ?_)
          refine Wp.skip ?_
          show Wp _ _ _ _
          refine Wp.reg_seq (own := fun _ => false) tt_ok ?_
          iterate 1
            refine regv_pure (s1 := ?_) rfl rfl ?_ ?_ ?_
            rotate_left
            · simp [b, e, a, g, f, q, o, k, i, j, u, v, w]; rfl
            · first | (simp [b, e, a, g, f, q, o, k, i, j, u, v, w] <;> omega) | (have hq := w; simp at hq; simp [b, e, a, g, f, q, o, k, i, j, u, v, w, hq]; done) | skip
          refine regv_nil ?_
          refine Wp.join (α := (List Bool) × Bool × Int) (fun x => rungeval_Contacts_S2 n _append0 a1 a2 au av aw aq bb x.1 x.2.1 x.2.2) (fun x => rungeval_Contacts_J2 n av aw (rungeval_Contacts_L1 n _append0 a1 a2 au rec_n1) aq bb x.1 x.2.1 x.2.2 = some r) ?_ ?_
          · clear h
            rintro ⟨ba, bg, bf⟩ h
            simp only [rungeval_Contacts_S2]
            dsimp only [rungeval_Contacts_J2] at h
            refine Wp.reg (own := fun _ => false) tt_ok ?_
            iterate 6
              refine regv_pure (s1 := ?_) rfl rfl ?_ ?_ ?_
              rotate_left
              · simp [b, e, a, g, f, q, o, k, i, j, u, v, w]; rfl
              · first | (simp [b, e, a, g, f, q, o, k, i, j, u, v, w] <;> omega) | (have hq := w; simp at hq; simp [b, e, a, g, f, q, o, k, i, j, u, v, w, hq]; done) | skip
            obtain ⟨cc, bm, h⟩ := obind h
            refine regv_call2 (s' := ?_) (p := ?_) (con_rungeval_conducting bm) rfl rfl rfl rfl ?_ ?_ ?_ ?_ ?_ ?_
            rotate_left 2
            · simp [b, e, a, g, f, q, o, k, i, j, u, v, w]; rfl
            · first | exact .inl rfl | (refine .inl ?_; simp [b, e, a, g, f, q, o, k, i, j, u, v, w]; done) | (refine .inr ?_; dsimp only; repeat' first | exact All2.nil | refine All2.cons ?_ ?_ | exact AvLe.refl _ rfl | refine AvLe.aggs ?_) <;> first | exact AvLe.refl _ rfl | exact AvLe.nil _ | exact AvLe.znil _ | exact AvLe.list' (by first | (simp [b, e, a, g, f, q, o, k, i, j, u, v, w] <;> omega)) (by simp [b, e, a, g, f, q, o, k, i, j, u, v, w]; done) | exact AvLe.eq (by simp [b, e, a, g, f, q, o, k, i, j, u, v, w]; done) rfl
            · first | (simp [b, e, a, g, f, q, o, k, i, j, u, v, w] <;> omega) | (have hq := w; simp at hq; simp [b, e, a, g, f, q, o, k, i, j, u, v, w, hq]; done) | skip
            · simp
            · simp [b, e, a, g, f, q, o, k, i, j, u, v, w]; rfl
            obtain ⟨cd, bo, h⟩ := obind h
            obtain ⟨aj, ag, af⟩ := atI_some bo
            try simp [b, e, a, g, f, q, o, k, i, j, u, v, w] at ag
            try simp only [Int.toNat_natCast, Int.reduceToNat, Nat.zero_add, Nat.add_zero] at af
            have ai := getElem_of af
            iterate 2
              refine regv_pure (s1 := ?_) rfl rfl ?_ ?_ ?_
              rotate_left
              · simp [b, e, a, g, f, q, o, k, i, j, u, v, w, aj, ag, af, ai]; rfl
              · first | (simp [b, e, a, g, f, q, o, k, i, j, u, v, w, aj, ag, af, ai] <;> omega) | (have hq := ai; simp at hq; simp [b, e, a, g, f, q, o, k, i, j, u, v, w, aj, ag, af, ai, hq]; done) | skip
            obtain ⟨bw, bd, h⟩ := obind h
            have ak := congrArg (List.map cB) (Option.some.inj bd)
            have am := (congrArg List.length (Option.some.inj bd)).symm
            try simp [b, e, a, g, f, q, o, k, i, j, u, v, w, aj, ag, af, ai] at ak
            try simp [b, e, a, g, f, q, o, k, i, j, u, v, w, aj, ag, af, ai] at am
            clear bd
            try simp only [ak]
            refine regv_nil ?_
            show Wp _ _ _ _
            refine Wp.reg (own := fun _ => false) tt_ok ?_
            iterate 2
              refine regv_pure (s1 := ?_) rfl rfl ?_ ?_ ?_
              rotate_left
              · simp [b, e, a, g, f, q, o, k, i, j, u, v, w, aj, ag, af, ai, ak, am]; rfl
              · first | (simp [b, e, a, g, f, q, o, k, i, j, u, v, w, aj, ag, af, ai, ak, am] <;> omega) | (have hq := am; simp at hq; simp [b, e, a, g, f, q, o, k, i, j, u, v, w, aj, ag, af, ai, ak, am, hq]; done) | skip
            refine regv_nil ?_
            refine next_mk (bf, ba, bw, (IntKind.i64.wrap (aw + 1))) h ?_
            refine Reloc.mk2 [some 0, some 1, some 2, some 3, some 4] rfl rfl rfl (by decide) ?_ ?_
            · repeat' first | exact objsLe_nil | refine objsLe_cons ?_ ?_
              all_goals first
                | exact trivial
                | (refine ObjLe.var' rfl rfl ?_ rfl
                   repeat' first | exact All2.nil | refine All2.cons ?_ ?_
                   all_goals first | (exact AvLe.refl _ rfl) | (exact AvLe.sl _ _ _ _ rfl) | (exact AvLe.hptr _ _ _ _ rfl) | (exact AvLe.mp _ _ rfl) | (exact AvLe.nil _) | (exact AvLe.znil _) | (exact AvLe.ghost _ rfl) | (exact AvLe.zghost _ rfl) | (exact AvLe.sl' rfl (by simp [b, e, a, g, f, q, o, k, i, j, u, v, w, aj, ag, af, ai, ak, am]; done) (by first | (simp [b, e, a, g, f, q, o, k, i, j, u, v, w, aj, ag, af, ai, ak, am] <;> omega) | omega)) | (exact AvLe.frz2 rfl (by simp) rfl (by simp [b, e, a, g, f, q, o, k, i, j, u, v, w, aj, ag, af, ai, ak, am]; done) (by simp [b, e, a, g, f, q, o, k, i, j, u, v, w, aj, ag, af, ai, ak, am]; done) (by simp [b, e, a, g, f, q, o, k, i, j, u, v, w, aj, ag, af, ai, ak, am]; done)) | (exact AvLe.list' (by simp [b, e, a, g, f, q, o, k, i, j, u, v, w, aj, ag, af, ai, ak, am]; done) (by simp [b, e, a, g, f, q, o, k, i, j, u, v, w, aj, ag, af, ai, ak, am]; done)) | (exact AvLe.eq (by simp [b, e, a, g, f, q, o, k, i, j, u, v, w, aj, ag, af, ai, ak, am]; done) rfl))
                | (exact ObjLe.map' rfl rfl)
                | (exact ObjLe.map2 rfl rfl (by first | (simp [b, e, a, g, f, q, o, k, i, j, u, v, w, aj, ag, af, ai, ak, am]; done) | (simp [b, e, a, g, f, q, o, k, i, j, u, v, w, aj, ag, af, ai, ak, am]; rfl)))
                | (exact ObjLe.slot' rfl)
                | (exact ObjLe.ghost' rfl (by decide))
                | (exact ObjLe.arr' rfl rfl (by first | (simp [b, e, a, g, f, q, o, k, i, j, u, v, w, aj, ag, af, ai, ak, am] <;> omega)) (fun _ _ => by first | rfl | (simp [b, e, a, g, f, q, o, k, i, j, u, v, w, aj, ag, af, ai, ak, am]; done)))
                | ((simp [b, e, a, g, f, q, o, k, i, j, u, v, w, aj, ag, af, ai, ak, am]; done))
            · repeat' first | exact chLe_nil | refine chLe_cons ?_ ?_ | exact AvLe.refl _ rfl | refine AvLe.aggs ?_ | exact All2.nil | refine All2.cons ?_ ?_
              all_goals first
                | (exact AvLe.refl _ rfl)
                | (exact AvLe.sl _ _ _ _ rfl)
                | (exact AvLe.hptr _ _ _ _ rfl)
                | (exact AvLe.mp _ _ rfl)
                | (exact AvLe.nil _)
                | (exact AvLe.znil _)
                | (exact AvLe.ghost _ rfl)
                | (exact AvLe.zghost _ rfl)
                | (exact AvLe.sl' rfl (by simp [b, e, a, g, f, q, o, k, i, j, u, v, w, aj, ag, af, ai, ak, am]; done) (by first | (simp [b, e, a, g, f, q, o, k, i, j, u, v, w, aj, ag, af, ai, ak, am] <;> omega) | omega))
                | (exact AvLe.frz2 rfl (by simp) rfl (by simp [b, e, a, g, f, q, o, k, i, j, u, v, w, aj, ag, af, ai, ak, am]; done) (by simp [b, e, a, g, f, q, o, k, i, j, u, v, w, aj, ag, af, ai, ak, am]; done) (by simp [b, e, a, g, f, q, o, k, i, j, u, v, w, aj, ag, af, ai, ak, am]; done))
                | (exact AvLe.list' (by simp [b, e, a, g, f, q, o, k, i, j, u, v, w, aj, ag, af, ai, ak, am]; done) (by simp [b, e, a, g, f, q, o, k, i, j, u, v, w, aj, ag, af, ai, ak, am]; done))
                | (exact AvLe.eq (by simp [b, e, a, g, f, q, o, k, i, j, u, v, w, aj, ag, af, ai, ak, am]; done) rfl)
          · skip
            refine Wp.reg_seq (own := fun _ => false) tt_ok ?_
            iterate 1
              refine regv_pure (s1 := ?_) rfl rfl ?_ ?_ ?_
              rotate_left
              · simp [b, e, a, g, f, q, o, k, i, j, u, v, w]; rfl
              · first | (simp [b, e, a, g, f, q, o, k, i, j, u, v, w] <;> omega) | (have hq := w; simp at hq; simp [b, e, a, g, f, q, o, k, i, j, u, v, w, hq]; done) | skip
            obtain ⟨bz, bp, h⟩ := obind h
            refine regv_call2 (s' := ?_) (p := ?_) (con_rungeval_sees bp) rfl rfl rfl rfl ?_ ?_ ?_ ?_ ?_ ?_
            rotate_left 2
            · simp [b, e, a, g, f, q, o, k, i, j, u, v, w]; rfl
            · first | exact .inl rfl | (refine .inl ?_; simp [b, e, a, g, f, q, o, k, i, j, u, v, w]; done) | (refine .inr ?_; dsimp only; repeat' first | exact All2.nil | refine All2.cons ?_ ?_ | exact AvLe.refl _ rfl | refine AvLe.aggs ?_) <;> first | exact AvLe.refl _ rfl | exact AvLe.nil _ | exact AvLe.znil _ | exact AvLe.list' (by first | (simp [b, e, a, g, f, q, o, k, i, j, u, v, w] <;> omega)) (by simp [b, e, a, g, f, q, o, k, i, j, u, v, w]; done) | exact AvLe.eq (by simp [b, e, a, g, f, q, o, k, i, j, u, v, w]; done) rfl
            · first | (simp [b, e, a, g, f, q, o, k, i, j, u, v, w] <;> omega) | (have hq := w; simp at hq; simp [b, e, a, g, f, q, o, k, i, j, u, v, w, hq]; done) | skip
            · simp
            · simp [b, e, a, g, f, q, o, k, i, j, u, v, w]; rfl
            refine regv_nil ?_
            refine (Bool.eq_false_or_eq_true bz).symm.elim (fun y => ?_) (fun y => ?_)
            · rw [if_neg (by rw [y]; simp)] at h
              refine Wp.cond false (by first | (simp [b, e, a, g, f, q, o, k, i, j, u, v, w, y] <;> omega) | (have hq := y; simp at hq; simp [b, e, a, g, f, q, o, k, i, j, u, v, w, y, hq]; done)) (fun h0 => absurd h0 (by decide)) (fun _ => ?_)
              refine Wp.skip ?_
              refine next_mk (az, false, ay) h ?_
              refine Reloc.mk2 [some 0, some 1, some 2, some 3, some 4, some 5] rfl rfl rfl (by decide) ?_ ?_
              · repeat' first | exact objsLe_nil | refine objsLe_cons ?_ ?_
                all_goals first
                  | exact trivial
                  | (refine ObjLe.var' rfl rfl ?_ rfl
                     repeat' first | exact All2.nil | refine All2.cons ?_ ?_
                     all_goals first | (exact AvLe.refl _ rfl) | (exact AvLe.sl _ _ _ _ rfl) | (exact AvLe.hptr _ _ _ _ rfl) | (exact AvLe.mp _ _ rfl) | (exact AvLe.nil _) | (exact AvLe.znil _) | (exact AvLe.ghost _ rfl) | (exact AvLe.zghost _ rfl) | (exact AvLe.sl' rfl (by simp [b, e, a, g, f, q, o, k, i, j, u, v, w, y]; done) (by first | (simp [b, e, a, g, f, q, o, k, i, j, u, v, w, y] <;> omega) | omega)) | (exact AvLe.frz2 rfl (by simp) rfl (by simp [b, e, a, g, f, q, o, k, i, j, u, v, w, y]; done) (by simp [b, e, a, g, f, q, o, k, i, j, u, v, w, y]; done) (by simp [b, e, a, g, f, q, o, k, i, j, u, v, w, y]; done)) | (exact AvLe.list' (by simp [b, e, a, g, f, q, o, k, i, j, u, v, w, y]; done) (by simp [b, e, a, g, f, q, o, k, i, j, u, v, w, y]; done)) | (exact AvLe.eq (by simp [b, e, a, g, f, q, o, k, i, j, u, v, w, y]; done) rfl))
                  | (exact ObjLe.map' rfl rfl)
                  | (exact ObjLe.map2 rfl rfl (by first | (simp [b, e, a, g, f, q, o, k, i, j, u, v, w, y]; done) | (simp [b, e, a, g, f, q, o, k, i, j, u, v, w, y]; rfl)))
                  | (exact ObjLe.slot' rfl)
                  | (exact ObjLe.ghost' rfl (by decide))
                  | (exact ObjLe.arr' rfl rfl (by first | (simp [b, e, a, g, f, q, o, k, i, j, u, v, w, y] <;> omega)) (fun _ _ => by first | rfl | (simp [b, e, a, g, f, q, o, k, i, j, u, v, w, y]; done)))
                  | ((simp [b, e, a, g, f, q, o, k, i, j, u, v, w, y]; done))
              · repeat' first | exact chLe_nil | refine chLe_cons ?_ ?_ | exact AvLe.refl _ rfl | refine AvLe.aggs ?_ | exact All2.nil | refine All2.cons ?_ ?_
                all_goals first
                  | (exact AvLe.refl _ rfl)
                  | (exact AvLe.sl _ _ _ _ rfl)
                  | (exact AvLe.hptr _ _ _ _ rfl)
                  | (exact AvLe.mp _ _ rfl)
                  | (exact AvLe.nil _)
                  | (exact AvLe.znil _)
                  | (exact AvLe.ghost _ rfl)
                  | (exact AvLe.zghost _ rfl)
                  | (exact AvLe.sl' rfl (by simp [b, e, a, g, f, q, o, k, i, j, u, v, w, y]; done) (by first | (simp [b, e, a, g, f, q, o, k, i, j, u, v, w, y] <;> omega) | omega))
                  | (exact AvLe.frz2 rfl (by simp) rfl (by simp [b, e, a, g, f, q, o, k, i, j, u, v, w, y]; done) (by simp [b, e, a, g, f, q, o, k, i, j, u, v, w, y]; done) (by simp [b, e, a, g, f, q, o, k, i, j, u, v, w, y]; done))
                  | (exact AvLe.list' (by simp [b, e, a, g, f, q, o, k, i, j, u, v, w, y]; done) (by simp [b, e, a, g, f, q, o, k, i, j, u, v, w, y]; done))
                  | (exact AvLe.eq (by simp [b, e, a, g, f, q, o, k, i, j, u, v, w, y]; done) rfl)
            · rw [if_pos y] at h
              refine Wp.cond true (by first | (simp [b, e, a, g, f, q, o, k, i, j, u, v, w, y] <;> omega) | (have hq := y; simp at hq; simp [b, e, a, g, f, q, o, k, i, j, u, v, w, y, hq]; done)) (fun _ => ?_) (fun h0 => absurd h0 (by decide))
              refine Wp.seq ?_
              refine Wp.reg_seq (own := fun _ => false) tt_ok ?_
              iterate 3
                refine regv_pure (s1 := ?_) rfl rfl ?_ ?_ ?_
                rotate_left
                · simp [b, e, a, g, f, q, o, k, i, j, u, v, w, y]; rfl
                · first | (simp [b, e, a, g, f, q, o, k, i, j, u, v, w, y] <;> omega) | (have hq := y; simp at hq; simp [b, e, a, g, f, q, o, k, i, j, u, v, w, y, hq]; done) | skip
              refine (Decidable.em (ay < 0)).symm.elim (fun z => ?_) (fun z => ?_)
              · rw [if_neg (by simpa using z)] at h
                refine regv_pure (s1 := ?_) rfl ?_ ?_ ?_ ?_
                rotate_left
                · simp [b, e, a, g, f, q, o, k, i, j, u, v, w, y, z]; done
                · simp [b, e, a, g, f, q, o, k, i, j, u, v, w, y, z]; rfl
                · first | (simp [b, e, a, g, f, q, o, k, i, j, u, v, w, y, z] <;> omega) | (have hq := z; simp at hq; simp [b, e, a, g, f, q, o, k, i, j, u, v, w, y, z, hq]; done) | skip
                refine regv_pure (s1 := ?_) rfl ?_ ?_ ?_ ?_
                rotate_left
                · simp [b, e, a, g, f, q, o, k, i, j, u, v, w, y, z]; done
                · simp [b, e, a, g, f, q, o, k, i, j, u, v, w, y, z]; rfl
                · first | (simp [b, e, a, g, f, q, o, k, i, j, u, v, w, y, z] <;> omega) | (have hq := z; simp at hq; simp [b, e, a, g, f, q, o, k, i, j, u, v, w, y, z, hq]; done) | skip
                refine regv_pure (s1 := ?_) rfl ?_ ?_ ?_ ?_
                rotate_left
                · simp [b, e, a, g, f, q, o, k, i, j, u, v, w, y, z]; done
                · simp [b, e, a, g, f, q, o, k, i, j, u, v, w, y, z]; rfl
                · first | (simp [b, e, a, g, f, q, o, k, i, j, u, v, w, y, z] <;> omega) | (have hq := z; simp at hq; simp [b, e, a, g, f, q, o, k, i, j, u, v, w, y, z, hq]; done) | skip
                refine regv_pure (s1 := ?_) rfl ?_ ?_ ?_ ?_
                rotate_left
                · simp [b, e, a, g, f, q, o, k, i, j, u, v, w, y, z]; done
                · simp [b, e, a, g, f, q, o, k, i, j, u, v, w, y, z]; rfl
                · first | (simp [b, e, a, g, f, q, o, k, i, j, u, v, w, y, z] <;> omega) | (have hq := z; simp at hq; simp [b, e, a, g, f, q, o, k, i, j, u, v, w, y, z, hq]; done) | skip
                refine regv_pure (s1 := ?_) rfl ?_ ?_ ?_ ?_
                rotate_left
                · simp [b, e, a, g, f, q, o, k, i, j, u, v, w, y, z]; done
                · simp [b, e, a, g, f, q, o, k, i, j, u, v, w, y, z]; rfl
                · first | (simp [b, e, a, g, f, q, o, k, i, j, u, v, w, y, z] <;> omega) | (have hq := z; simp at hq; simp [b, e, a, g, f, q, o, k, i, j, u, v, w, y, z, hq]; done) | skip
                iterate 1
                  refine regv_pure (s1 := ?_) rfl rfl ?_ ?_ ?_
                  rotate_left
                  · simp [b, e, a, g, f, q, o, k, i, j, u, v, w, y, z]; rfl
                  · first | (simp [b, e, a, g, f, q, o, k, i, j, u, v, w, y, z] <;> omega) | (have hq := z; simp at hq; simp [b, e, a, g, f, q, o, k, i, j, u, v, w, y, z, hq]; done) | skip
                refine regv_nil ?_
                refine (Decidable.em (ay ≥ (az.length : Int))).symm.elim (fun aa => ?_) (fun aa => ?_)
                · rw [if_neg (by simpa using aa)] at h
                  refine Wp.cond false (by first | (simp [b, e, a, g, f, q, o, k, i, j, u, v, w, y, z, aa] <;> omega) | (have hq := aa; simp at hq; simp [b, e, a, g, f, q, o, k, i, j, u, v, w, y, z, aa, hq]; done)) (fun h0 => absurd h0 (by decide)) (fun _ => ?_)
                  refine Wp.skip ?_
                  show Wp _ _ _ _
                  refine Wp.drawn (own := fun _ => false) tt_ok mixed [2, 3] (by decide +kernel) trivial ?_
                  refine regI_upto 6 (r := ?_) ?_ ?_ ?_
                  rotate_left
                  · simp [List.range, List.range.loop, b, e, a, g, f, q, o, k, i, j, u, v, w, y, z, aa]; rfl
                  · first | (simp [b, e, a, g, f, q, o, k, i, j, u, v, w, y, z, aa] <;> omega) | (have hq := aa; simp at hq; simp [b, e, a, g, f, q, o, k, i, j, u, v, w, y, z, aa, hq]; done) | skip
                  obtain ⟨ca, bq, h⟩ := obind h
                  obtain ⟨ae, ad, ab⟩ := atI_some bq
                  try simp [b, e, a, g, f, q, o, k, i, j, u, v, w, y, z, aa] at ad
                  try simp only [Int.toNat_natCast, Int.reduceToNat, Nat.zero_add, Nat.add_zero] at ab
                  have ac := getElem_of ab
                  refine regI_upto 5 (r := ?_) ?_ ?_ ?_
                  rotate_left
                  · simp [List.range, List.range.loop, b, e, a, g, f, q, o, k, i, j, u, v, w, y, z, aa, ae, ad, ab, ac]; rfl
                  · first | (simp [b, e, a, g, f, q, o, k, i, j, u, v, w, y, z, aa, ae, ad, ab, ac] <;> omega) | (have hq := ac; simp at hq; simp [b, e, a, g, f, q, o, k, i, j, u, v, w, y, z, aa, ae, ad, ab, ac, hq]; done) | skip
                  refine regI_bar (r := ?_) tt_ok rfl rfl rfl rfl ?_ ?_ ?_
                  rotate_left
                  · simp [b, e, a, g, f, q, o, k, i, j, u, v, w, y, z, aa, ae, ad, ab, ac]; rfl
                  · first | (simp [b, e, a, g, f, q, o, k, i, j, u, v, w, y, z, aa, ae, ad, ab, ac] <;> omega) | (have hq := ac; simp at hq; simp [b, e, a, g, f, q, o, k, i, j, u, v, w, y, z, aa, ae, ad, ab, ac, hq]; done) | skip
                  obtain ⟨cb, be, h⟩ := obind h
                  have ao := congrArg (List.map cB) (Option.some.inj be)
                  have ap := (congrArg List.length (Option.some.inj be)).symm
                  try simp [b, e, a, g, f, q, o, k, i, j, u, v, w, y, z, aa, ae, ad, ab, ac] at ao
                  try simp [b, e, a, g, f, q, o, k, i, j, u, v, w, y, z, aa, ae, ad, ab, ac] at ap
                  clear be
                  try simp only [ao]
                  refine regI_nil ?_
                  refine Wp.reg (own := fun _ => false) tt_ok ?_
                  iterate 3
                    refine regv_pure (s1 := ?_) rfl rfl ?_ ?_ ?_
                    rotate_left
                    · simp [b, e, a, g, f, q, o, k, i, j, u, v, w, y, z, aa, ae, ad, ab, ac, ao, ap]; rfl
                    · first | (simp [b, e, a, g, f, q, o, k, i, j, u, v, w, y, z, aa, ae, ad, ab, ac, ao, ap] <;> omega) | (have hq := ap; simp at hq; simp [b, e, a, g, f, q, o, k, i, j, u, v, w, y, z, aa, ae, ad, ab, ac, ao, ap, hq]; done) | skip
                  refine regv_nil ?_
                  refine next_mk (cb, ca, (IntKind.i64.wrap (ay + 1))) h ?_
                  refine Reloc.mk2 [some 0, some 1, some 2, some 3, some 4, some 5] rfl rfl rfl (by decide) ?_ ?_
                  · repeat' first | exact objsLe_nil | refine objsLe_cons ?_ ?_
                    all_goals first
                      | exact trivial
                      | (refine ObjLe.var' rfl rfl ?_ rfl
                         repeat' first | exact All2.nil | refine All2.cons ?_ ?_
                         all_goals first | (exact AvLe.refl _ rfl) | (exact AvLe.sl _ _ _ _ rfl) | (exact AvLe.hptr _ _ _ _ rfl) | (exact AvLe.mp _ _ rfl) | (exact AvLe.nil _) | (exact AvLe.znil _) | (exact AvLe.ghost _ rfl) | (exact AvLe.zghost _ rfl) | (exact AvLe.sl' rfl (by simp [b, e, a, g, f, q, o, k, i, j, u, v, w, y, z, aa, ae, ad, ab, ac, ao, ap]; done) (by first | (simp [b, e, a, g, f, q, o, k, i, j, u, v, w, y, z, aa, ae, ad, ab, ac, ao, ap] <;> omega) | omega)) | (exact AvLe.frz2 rfl (by simp) rfl (by simp [b, e, a, g, f, q, o, k, i, j, u, v, w, y, z, aa, ae, ad, ab, ac, ao, ap]; done) (by simp [b, e, a, g, f, q, o, k, i, j, u, v, w, y, z, aa, ae, ad, ab, ac, ao, ap]; done) (by simp [b, e, a, g, f, q, o, k, i, j, u, v, w, y, z, aa, ae, ad, ab, ac, ao, ap]; done)) | (exact AvLe.list' (by simp [b, e, a, g, f, q, o, k, i, j, u, v, w, y, z, aa, ae, ad, ab, ac, ao, ap]; done) (by simp [b, e, a, g, f, q, o, k, i, j, u, v, w, y, z, aa, ae, ad, ab, ac, ao, ap]; done)) | (exact AvLe.eq (by simp [b, e, a, g, f, q, o, k, i, j, u, v, w, y, z, aa, ae, ad, ab, ac, ao, ap]; done) rfl))
                      | (exact ObjLe.map' rfl rfl)
                      | (exact ObjLe.map2 rfl rfl (by first | (simp [b, e, a, g, f, q, o, k, i, j, u, v, w, y, z, aa, ae, ad, ab, ac, ao, ap]; done) | (simp [b, e, a, g, f, q, o, k, i, j, u, v, w, y, z, aa, ae, ad, ab, ac, ao, ap]; rfl)))
                      | (exact ObjLe.slot' rfl)
                      | (exact ObjLe.ghost' rfl (by decide))
                      | (exact ObjLe.arr' rfl rfl (by first | (simp [b, e, a, g, f, q, o, k, i, j, u, v, w, y, z, aa, ae, ad, ab, ac, ao, ap] <;> omega)) (fun _ _ => by first | rfl | (simp [b, e, a, g, f, q, o, k, i, j, u, v, w, y, z, aa, ae, ad, ab, ac, ao, ap]; done)))
                      | ((simp [b, e, a, g, f, q, o, k, i, j, u, v, w, y, z, aa, ae, ad, ab, ac, ao, ap]; done))
                  · repeat' first | exact chLe_nil | refine chLe_cons ?_ ?_ | exact AvLe.refl _ rfl | refine AvLe.aggs ?_ | exact All2.nil | refine All2.cons ?_ ?_
                    all_goals first
                      | (exact AvLe.refl _ rfl)
                      | (exact AvLe.sl _ _ _ _ rfl)
                      | (exact AvLe.hptr _ _ _ _ rfl)
                      | (exact AvLe.mp _ _ rfl)
                      | (exact AvLe.nil _)
                      | (exact AvLe.znil _)
                      | (exact AvLe.ghost _ rfl)
                      | (exact AvLe.zghost _ rfl)
                      | (exact AvLe.sl' rfl (by simp [b, e, a, g, f, q, o, k, i, j, u, v, w, y, z, aa, ae, ad, ab, ac, ao, ap]; done) (by first | (simp [b, e, a, g, f, q, o, k, i, j, u, v, w, y, z, aa, ae, ad, ab, ac, ao, ap] <;> omega) | omega))
                      | (exact AvLe.frz2 rfl (by simp) rfl (by simp [b, e, a, g, f, q, o, k, i, j, u, v, w, y, z, aa, ae, ad, ab, ac, ao, ap]; done) (by simp [b, e, a, g, f, q, o, k, i, j, u, v, w, y, z, aa, ae, ad, ab, ac, ao, ap]; done) (by simp [b, e, a, g, f, q, o, k, i, j, u, v, w, y, z, aa, ae, ad, ab, ac, ao, ap]; done))
                      | (exact AvLe.list' (by simp [b, e, a, g, f, q, o, k, i, j, u, v, w, y, z, aa, ae, ad, ab, ac, ao, ap]; done) (by simp [b, e, a, g, f, q, o, k, i, j, u, v, w, y, z, aa, ae, ad, ab, ac, ao, ap]; done))
                      | (exact AvLe.eq (by simp [b, e, a, g, f, q, o, k, i, j, u, v, w, y, z, aa, ae, ad, ab, ac, ao, ap]; done) rfl)
                · rw [if_pos (decide_eq_true aa)] at h
                  refine Wp.cond true (by first | (simp [b, e, a, g, f, q, o, k, i, j, u, v, w, y, z, aa] <;> omega) | (have hq := aa; simp at hq; simp [b, e, a, g, f, q, o, k, i, j, u, v, w, y, z, aa, hq]; done)) (fun _ => ?_) (fun h0 => absurd h0 (by decide))
                  refine Wp.reg_seq (own := fun _ => false) tt_ok ?_
                  iterate 4
                    refine regv_pure (s1 := ?_) rfl rfl ?_ ?_ ?_
                    rotate_left
                    · simp [b, e, a, g, f, q, o, k, i, j, u, v, w, y, z, aa]; rfl
                    · first | (simp [b, e, a, g, f, q, o, k, i, j, u, v, w, y, z, aa] <;> omega) | (have hq := aa; simp at hq; simp [b, e, a, g, f, q, o, k, i, j, u, v, w, y, z, aa, hq]; done) | skip
                  refine regv_nil ?_
                  cases h
                  refine Wp.ret (endQ_ret0 rfl ?_)
                  repeat' first | exact All2.nil | refine All2.cons ?_ ?_ | refine AvLe.tups ?_ | refine AvLe.aggs ?_
                  all_goals first
                    | (exact AvLe.refl _ rfl)
                    | (exact AvLe.nil _)
                    | (exact AvLe.znil _)
                    | (exact AvLe.ghost _ rfl)
                    | (exact AvLe.zghost _ rfl)
                    | (exact AvLe.sl' rfl (by simp [b, e, a, g, f, q, o, k, i, j, u, v, w, y, z, aa]; done) (by simp [b, e, a, g, f, q, o, k, i, j, u, v, w, y, z, aa]; done))
                    | (exact AvLe.frz' rfl rfl rfl (by simp [b, e, a, g, f, q, o, k, i, j, u, v, w, y, z, aa]; done) (by simp [b, e, a, g, f, q, o, k, i, j, u, v, w, y, z, aa]; done) (by simp [b, e, a, g, f, q, o, k, i, j, u, v, w, y, z, aa]; done))
                    | (exact AvLe.list' (by simp [b, e, a, g, f, q, o, k, i, j, u, v, w, y, z, aa]; done) (by simp [b, e, a, g, f, q, o, k, i, j, u, v, w, y, z, aa]; done))
                    | (exact AvLe.eq (by simp [b, e, a, g, f, q, o, k, i, j, u, v, w, y, z, aa]; done) rfl)
              · rw [if_pos (decide_eq_true z)] at h
                refine regv_skip (s1 := ?_) ?_ ?_ ?_
                rotate_left
                · simp [b, e, a, g, f, q, o, k, i, j, u, v, w, y, z]; done
                · simp [b, e, a, g, f, q, o, k, i, j, u, v, w, y, z]; rfl
                refine regv_skip (s1 := ?_) ?_ ?_ ?_
                rotate_left
                · simp [b, e, a, g, f, q, o, k, i, j, u, v, w, y, z]; done
                · simp [b, e, a, g, f, q, o, k, i, j, u, v, w, y, z]; rfl
                refine regv_skip (s1 := ?_) ?_ ?_ ?_
                rotate_left
                · simp [b, e, a, g, f, q, o, k, i, j, u, v, w, y, z]; done
                · simp [b, e, a, g, f, q, o, k, i, j, u, v, w, y, z]; rfl
                refine regv_skip (s1 := ?_) ?_ ?_ ?_
                rotate_left
                · simp [b, e, a, g, f, q, o, k, i, j, u, v, w, y, z]; done
                · simp [b, e, a, g, f, q, o, k, i, j, u, v, w, y, z]; rfl
                refine regv_skip (s1 := ?_) ?_ ?_ ?_
                rotate_left
                · simp [b, e, a, g, f, q, o, k, i, j, u, v, w, y, z]; done
                · simp [b, e, a, g, f, q, o, k, i, j, u, v, w, y, z]; rfl
                iterate 1
                  refine regv_pure (s1 := ?_) rfl rfl ?_ ?_ ?_
                  rotate_left
                  · simp [b, e, a, g, f, q, o, k, i, j, u, v, w, y, z]; rfl
                  · first | (simp [b, e, a, g, f, q, o, k, i, j, u, v, w, y, z] <;> omega) | (have hq := z; simp at hq; simp [b, e, a, g, f, q, o, k, i, j, u, v, w, y, z, hq]; done) | skip
                refine regv_nil ?_
                refine Wp.cond true (by first | (simp [b, e, a, g, f, q, o, k, i, j, u, v, w, y, z] <;> omega) | (have hq := z; simp at hq; simp [b, e, a, g, f, q, o, k, i, j, u, v, w, y, z, hq]; done)) (fun _ => ?_) (fun h0 => absurd h0 (by decide))
                refine Wp.reg_seq (own := fun _ => false) tt_ok ?_
                iterate 4
                  refine regv_pure (s1 := ?_) rfl rfl ?_ ?_ ?_
                  rotate_left
                  · simp [b, e, a, g, f, q, o, k, i, j, u, v, w, y, z]; rfl
                  · first | (simp [b, e, a, g, f, q, o, k, i, j, u, v, w, y, z] <;> omega) | (have hq := z; simp at hq; simp [b, e, a, g, f, q, o, k, i, j, u, v, w, y, z, hq]; done) | skip
                refine regv_nil ?_
                cases h
                refine Wp.ret (endQ_ret0 rfl ?_)
                repeat' first | exact All2.nil | refine All2.cons ?_ ?_ | refine AvLe.tups ?_ | refine AvLe.aggs ?_
                all_goals first
                  | (exact AvLe.refl _ rfl)
                  | (exact AvLe.nil _)
                  | (exact AvLe.znil _)
                  | (exact AvLe.ghost _ rfl)
                  | (exact AvLe.zghost _ rfl)
                  | (exact AvLe.sl' rfl (by simp [b, e, a, g, f, q, o, k, i, j, u, v, w, y, z]; done) (by simp [b, e, a, g, f, q, o, k, i, j, u, v, w, y, z]; done))
                  | (exact AvLe.frz' rfl rfl rfl (by simp [b, e, a, g, f, q, o, k, i, j, u, v, w, y, z]; done) (by simp [b, e, a, g, f, q, o, k, i, j, u, v, w, y, z]; done) (by simp [b, e, a, g, f, q, o, k, i, j, u, v, w, y, z]; done))
                  | (exact AvLe.list' (by simp [b, e, a, g, f, q, o, k, i, j, u, v, w, y, z]; done) (by simp [b, e, a, g, f, q, o, k, i, j, u, v, w, y, z]; done))
                  | (exact AvLe.eq (by simp [b, e, a, g, f, q, o, k, i, j, u, v, w, y, z]; done) rfl)
        · rw [w, if_pos rfl] at h
          refine Wp.cond true (by first | (simp [b, e, a, g, f, q, o, k, i, j, u, v, w] <;> omega) | (have hq := w; simp at hq; simp [b, e, a, g, f, q, o, k, i, j, u, v, w, hq]; done)) (fun _ => ?_) (fun h0 => absurd h0 (by decide))
          refine Wp.reg_seq (own := fun _ => false) tt_ok ?_
          iterate 5
            refine regv_pure (s1 := ?_) rfl rfl ?_ ?_ ?_
            rotate_left
            · simp [b, e, a, g, f, q, o, k, i, j, u, v, w]; rfl
            · first | (simp [b, e, a, g, f, q, o, k, i, j, u, v, w] <;> omega) | (have hq := w; simp at hq; simp [b, e, a, g, f, q, o, k, i, j, u, v, w, hq]; done) | skip
          refine regv_nil ?_
          cases h
          refine Wp.ret (endQ_ret0 rfl ?_)
          repeat' first | exact All2.nil | refine All2.cons ?_ ?_ | refine AvLe.tups ?_ | refine AvLe.aggs ?_
          all_goals first
            | (exact AvLe.refl _ rfl)
            | (exact AvLe.nil _)
            | (exact AvLe.znil _)
            | (exact AvLe.ghost _ rfl)
            | (exact AvLe.zghost _ rfl)
            | (exact AvLe.sl' rfl (by simp [b, e, a, g, f, q, o, k, i, j, u, v, w]; done) (by simp [b, e, a, g, f, q, o, k, i, j, u, v, w]; done))
            | (exact AvLe.frz' rfl rfl rfl (by simp [b, e, a, g, f, q, o, k, i, j, u, v, w]; done) (by simp [b, e, a, g, f, q, o, k, i, j, u, v, w]; done) (by simp [b, e, a, g, f, q, o, k, i, j, u, v, w]; done))
            | (exact AvLe.list' (by simp [b, e, a, g, f, q, o, k, i, j, u, v, w]; done) (by simp [b, e, a, g, f, q, o, k, i, j, u, v, w]; done))
            | (exact AvLe.eq (by simp [b, e, a, g, f, q, o, k, i, j, u, v, w]; done) rfl)
      · rw [if_pos (decide_eq_true v)] at h
        refine Wp.cond true (by first | (simp [b, e, a, g, f, q, o, k, i, j, u, v] <;> omega) | (have hq := v; simp at hq; simp [b, e, a, g, f, q, o, k, i, j, u, v, hq]; done)) (fun _ => ?_) (fun h0 => absurd h0 (by decide))
        refine Wp.reg_seq (own := fun _ => false) tt_ok ?_
        iterate 4
          refine regv_pure (s1 := ?_) rfl rfl ?_ ?_ ?_
          rotate_left
          · simp [b, e, a, g, f, q, o, k, i, j, u, v]; rfl
          · first | (simp [b, e, a, g, f, q, o, k, i, j, u, v] <;> omega) | (have hq := v; simp at hq; simp [b, e, a, g, f, q, o, k, i, j, u, v, hq]; done) | skip
        refine regv_nil ?_
        cases h
        refine Wp.ret (endQ_ret0 rfl ?_)
        repeat' first | exact All2.nil | refine All2.cons ?_ ?_ | refine AvLe.tups ?_ | refine AvLe.aggs ?_
        all_goals first
          | (exact AvLe.refl _ rfl)
          | (exact AvLe.nil _)
          | (exact AvLe.znil _)
          | (exact AvLe.ghost _ rfl)
          | (exact AvLe.zghost _ rfl)
          | (exact AvLe.sl' rfl (by simp [b, e, a, g, f, q, o, k, i, j, u, v]; done) (by simp [b, e, a, g, f, q, o, k, i, j, u, v]; done))
          | (exact AvLe.frz' rfl rfl rfl (by simp [b, e, a, g, f, q, o, k, i, j, u, v]; done) (by simp [b, e, a, g, f, q, o, k, i, j, u, v]; done) (by simp [b, e, a, g, f, q, o, k, i, j, u, v]; done))
          | (exact AvLe.list' (by simp [b, e, a, g, f, q, o, k, i, j, u, v]; done) (by simp [b, e, a, g, f, q, o, k, i, j, u, v]; done))
          | (exact AvLe.eq (by simp [b, e, a, g, f, q, o, k, i, j, u, v]; done) rfl)
    · rw [if_pos (decide_eq_true u)] at h
      refine regv_skip (s1 := ?_) ?_ ?_ ?_
      rotate_left
      · simp [b, e, a, g, f, q, o, k, i, j, u]; done
      · simp [b, e, a, g, f, q, o, k, i, j, u]; rfl
      refine regv_skip (s1 := ?_) ?_ ?_ ?_
      rotate_left
      · simp [b, e, a, g, f, q, o, k, i, j, u]; done
      · simp [b, e, a, g, f, q, o, k, i, j, u]; rfl
      refine regv_skip (s1 := ?_) ?_ ?_ ?_
      rotate_left
      · simp [b, e, a, g, f, q, o, k, i, j, u]; done
      · simp [b, e, a, g, f, q, o, k, i, j, u]; rfl
      iterate 1
        refine regv_pure (s1 := ?_) rfl rfl ?_ ?_ ?_
        rotate_left
        · simp [b, e, a, g, f, q, o, k, i, j, u]; rfl
        · first | (simp [b, e, a, g, f, q, o, k, i, j, u] <;> omega) | (have hq := u; simp at hq; simp [b, e, a, g, f, q, o, k, i, j, u, hq]; done) | skip
      refine regv_nil ?_
      refine Wp.cond true (by first | (simp [b, e, a, g, f, q, o, k, i, j, u] <;> omega) | (have hq := u; simp at hq; simp [b, e, a, g, f, q, o, k, i, j, u, hq]; done)) (fun _ => ?_) (fun h0 => absurd h0 (by decide))
      refine Wp.reg_seq (own := fun _ => false) tt_ok ?_
      iterate 4
        refine regv_pure (s1 := ?_) rfl rfl ?_ ?_ ?_
        rotate_left
        · simp [b, e, a, g, f, q, o, k, i, j, u]; rfl
        · first | (simp [b, e, a, g, f, q, o, k, i, j, u] <;> omega) | (have hq := u; simp at hq; simp [b, e, a, g, f, q, o, k, i, j, u, hq]; done) | skip
      refine regv_nil ?_
      cases h
      refine Wp.ret (endQ_ret0 rfl ?_)
      repeat' first | exact All2.nil | refine All2.cons ?_ ?_ | refine AvLe.tups ?_ | refine AvLe.aggs ?_
      all_goals first
        | (exact AvLe.refl _ rfl)
        | (exact AvLe.nil _)
        | (exact AvLe.znil _)
        | (exact AvLe.ghost _ rfl)
        | (exact AvLe.zghost _ rfl)
        | (exact AvLe.sl' rfl (by simp [b, e, a, g, f, q, o, k, i, j, u]; done) (by simp [b, e, a, g, f, q, o, k, i, j, u]; done))
        | (exact AvLe.frz' rfl rfl rfl (by simp [b, e, a, g, f, q, o, k, i, j, u]; done) (by simp [b, e, a, g, f, q, o, k, i, j, u]; done) (by simp [b, e, a, g, f, q, o, k, i, j, u]; done))
        | (exact AvLe.list' (by simp [b, e, a, g, f, q, o, k, i, j, u]; done) (by simp [b, e, a, g, f, q, o, k, i, j, u]; done))
        | (exact AvLe.eq (by simp [b, e, a, g, f, q, o, k, i, j, u]; done) rfl)

def law03_TooLarge_S1 (n : Nat) (l0 : List ApiState) (k : Int) : St :=
  { ch := [(5, aL cApiState l0), (6, .int .i64 (l0.length : Int)), (7, .int .i64 k)], hp := [], base := 0, n := 28, cond := True }

theorem con_law03_TooLarge {n : Nat} {l0 : List ApiState} {r : Int} (h : law03_TooLarge n l0 = some r) : Con Try.prog 22 [aL cApiState l0] (.int .i64 r) [] := by
  refine con_of (T := TT0) tt_ok Try.func22 (c := _) (by unfold Try.f22; rfl) Try.ntmps22 (rs := [.tmp 2]) (by rw [Try.results22]) (by unfold Try.f22; rfl) (by simp) ?_
  simp only [argsCh]
  dsimp only [law03_TooLarge] at h
  refine Wp.reg_seq (own := fun _ => false) tt_ok ?_
  iterate 1
    refine regv_pure (s1 := ?_) rfl rfl ?_ ?_ ?_
    rotate_left
    · simp []; rfl
    · first | (simp [] <;> omega) | skip
  refine regv_nil ?_
  refine Wp.seq ?_
  refine Wp.reg_seq (own := fun _ => false) tt_ok ?_
  iterate 3
    refine regv_pure (s1 := ?_) rfl rfl ?_ ?_ ?_
    rotate_left
    · simp []; rfl
    · first | (simp [] <;> omega) | skip
  refine regv_nil ?_
  refine Wp.block ?_
  refine Wp.loopF (α := Int) (fun x => law03_TooLarge_S1 n l0 x) (fun m x => law03_TooLarge_L1 l0 m x = some r) (fun _ h => by cases h) ?_ n 0 h ?_
  rotate_left
  · simp only [law03_TooLarge_S1]
    refine Reloc.mk2 [] rfl rfl rfl (by decide) ?_ ?_
    · repeat' first | exact objsLe_nil | refine objsLe_cons ?_ ?_
      all_goals first
        | exact trivial
        | (refine ObjLe.var' rfl rfl ?_ rfl
           repeat' first | exact All2.nil | refine All2.cons ?_ ?_
           all_goals first | (exact AvLe.refl _ rfl) | (exact AvLe.sl _ _ _ _ rfl) | (exact AvLe.hptr _ _ _ _ rfl) | (exact AvLe.mp _ _ rfl) | (exact AvLe.nil _) | (exact AvLe.znil _) | (exact AvLe.ghost _ rfl) | (exact AvLe.zghost _ rfl) | (exact AvLe.sl' rfl (by simp []; done) (by first | (simp [] <;> omega) | omega)) | (exact AvLe.frz2 rfl (by simp) rfl (by simp []; done) (by simp []; done) (by simp []; done)) | (exact AvLe.list' (by simp []; done) (by simp []; done)) | (exact AvLe.eq (by simp []; done) rfl))
        | (exact ObjLe.map' rfl rfl)
        | (exact ObjLe.map2 rfl rfl (by first | (simp []; done) | (simp []; rfl)))
        | (exact ObjLe.slot' rfl)
        | (exact ObjLe.ghost' rfl (by decide))
        | (exact ObjLe.arr' rfl rfl (by first | (simp [] <;> omega)) (fun _ _ => by first | rfl | (simp []; done)))
        | ((simp []; done))
    · repeat' first | exact chLe_nil | refine chLe_cons ?_ ?_ | exact AvLe.refl _ rfl | refine AvLe.aggs ?_ | exact All2.nil | refine All2.cons ?_ ?_
      all_goals first
        | (exact AvLe.refl _ rfl)
        | (exact AvLe.sl _ _ _ _ rfl)
        | (exact AvLe.hptr _ _ _ _ rfl)
        | (exact AvLe.mp _ _ rfl)
        | (exact AvLe.nil _)
        | (exact AvLe.znil _)
        | (exact AvLe.ghost _ rfl)
        | (exact AvLe.zghost _ rfl)
        | (exact AvLe.sl' rfl (by simp []; done) (by first | (simp [] <;> omega) | omega))
        | (exact AvLe.frz2 rfl (by simp) rfl (by simp []; done) (by simp []; done) (by simp []; done))
        | (exact AvLe.list' (by simp []; done) (by simp []; done))
        | (exact AvLe.eq (by simp []; done) rfl)
  rintro rec_n1 k h
  simp only [law03_TooLarge_S1]
  dsimp only [law03_TooLarge_L1] at h
  refine Wp.reg_seq (own := fun _ => false) tt_ok ?_
  iterate 1
    refine regv_pure (s1 := ?_) rfl rfl ?_ ?_ ?_
    rotate_left
    · simp []; rfl
    · first | (simp [] <;> omega) | skip
  refine regv_nil ?_
  refine Wp.seq ?_
  refine (Decidable.em (k < (l0.length : Int))).symm.elim (fun f => ?_) (fun f => ?_)
  · rw [if_neg (by simpa using f)] at h
    refine Wp.cond false (by first | (simp [f] <;> omega) | (have hq := f; simp at hq; simp [f, hq]; done)) (fun h0 => absurd h0 (by decide)) (fun _ => ?_)
    refine Wp.exit ?_
    show Wp _ _ _ _
    refine Wp.reg_seq (own := fun _ => false) tt_ok ?_
    iterate 1
      refine regv_pure (s1 := ?_) rfl rfl ?_ ?_ ?_
      rotate_left
      · simp [f]; rfl
      · first | (simp [f] <;> omega) | (have hq := f; simp at hq; simp [f, hq]; done) | skip
    refine regv_nil ?_
    cases h
    refine Wp.ret (endQ_ret0 rfl ?_)
    repeat' first | exact All2.nil | refine All2.cons ?_ ?_ | refine AvLe.tups ?_ | refine AvLe.aggs ?_
    all_goals first
      | (exact AvLe.refl _ rfl)
      | (exact AvLe.nil _)
      | (exact AvLe.znil _)
      | (exact AvLe.ghost _ rfl)
      | (exact AvLe.zghost _ rfl)
      | (exact AvLe.sl' rfl (by simp [f]; done) (by simp [f]; done))
      | (exact AvLe.frz' rfl rfl rfl (by simp [f]; done) (by simp [f]; done) (by simp [f]; done))
      | (exact AvLe.list' (by simp [f]; done) (by simp [f]; done))
      | (exact AvLe.eq (by simp [f]; done) rfl)
  · rw [if_pos (decide_eq_true f)] at h
    refine Wp.cond true (by first | (simp [f] <;> omega) | (have hq := f; simp at hq; simp [f, hq]; done)) (fun _ => ?_) (fun h0 => absurd h0 (by decide))
    refine Wp.skip ?_
    show Wp _ _ _ _
    refine Wp.seq ?_
    refine Wp.block ?_
    refine Wp.reg_seq (own := fun _ => false) tt_ok ?_
    obtain ⟨o, p, h⟩ := obind h
    obtain ⟨e, d, a⟩ := atI_some p
    try simp [f] at d
    try simp only [Int.toNat_natCast, Int.reduceToNat, Nat.zero_add, Nat.add_zero] at a
    have b := getElem_of a
    iterate 4
      refine regv_pure (s1 := ?_) rfl rfl ?_ ?_ ?_
      rotate_left
      · simp [f, e, d, a, b]; rfl
      · first | (simp [f, e, d, a, b] <;> omega) | (have hq := b; simp at hq; simp [f, e, d, a, b, hq]; done) | skip
    refine regv_nil ?_
    refine Wp.reg_seq (own := fun _ => false) tt_ok ?_
    iterate 5
      refine regv_pure (s1 := ?_) rfl rfl ?_ ?_ ?_
      rotate_left
      · simp [f, e, d, a, b]; rfl
      · first | (simp [f, e, d, a, b] <;> omega) | (have hq := b; simp at hq; simp [f, e, d, a, b, hq]; done) | skip
    refine (Decidable.em ((o.Q.length : Int) > 1000)).symm.elim (fun g => ?_) (fun g => ?_)
    · rw [if_neg (by simpa using g)] at h
      refine regv_pure (s1 := ?_) rfl ?_ ?_ ?_ ?_
      rotate_left
      · simp [f, e, d, a, b, g]; done
      · simp [f, e, d, a, b, g]; rfl
      · first | (simp [f, e, d, a, b, g] <;> omega) | (have hq := g; simp at hq; simp [f, e, d, a, b, g, hq]; done) | skip
      refine regv_pure (s1 := ?_) rfl ?_ ?_ ?_ ?_
      rotate_left
      · simp [f, e, d, a, b, g]; done
      · simp [f, e, d, a, b, g]; rfl
      · first | (simp [f, e, d, a, b, g] <;> omega) | (have hq := g; simp at hq; simp [f, e, d, a, b, g, hq]; done) | skip
      refine regv_pure (s1 := ?_) rfl ?_ ?_ ?_ ?_
      rotate_left
      · simp [f, e, d, a, b, g]; done
      · simp [f, e, d, a, b, g]; rfl
      · first | (simp [f, e, d, a, b, g] <;> omega) | (have hq := g; simp at hq; simp [f, e, d, a, b, g, hq]; done) | skip
      refine regv_pure (s1 := ?_) rfl ?_ ?_ ?_ ?_
      rotate_left
      · simp [f, e, d, a, b, g]; done
      · simp [f, e, d, a, b, g]; rfl
      · first | (simp [f, e, d, a, b, g] <;> omega) | (have hq := g; simp at hq; simp [f, e, d, a, b, g, hq]; done) | skip
      iterate 2
        refine regv_pure (s1 := ?_) rfl rfl ?_ ?_ ?_
        rotate_left
        · simp [f, e, d, a, b, g]; rfl
        · first | (simp [f, e, d, a, b, g] <;> omega) | (have hq := g; simp at hq; simp [f, e, d, a, b, g, hq]; done) | skip
      refine (Decidable.em ((o.M.length : Int) > 1000)).symm.elim (fun i => ?_) (fun i => ?_)
      · rw [if_neg (by simpa using i)] at h
        refine regv_pure (s1 := ?_) rfl ?_ ?_ ?_ ?_
        rotate_left
        · simp [f, e, d, a, b, g, i]; done
        · simp [f, e, d, a, b, g, i]; rfl
        · first | (simp [f, e, d, a, b, g, i] <;> omega) | (have hq := i; simp at hq; simp [f, e, d, a, b, g, i, hq]; done) | skip
        refine regv_pure (s1 := ?_) rfl ?_ ?_ ?_ ?_
        rotate_left
        · simp [f, e, d, a, b, g, i]; done
        · simp [f, e, d, a, b, g, i]; rfl
        · first | (simp [f, e, d, a, b, g, i] <;> omega) | (have hq := i; simp at hq; simp [f, e, d, a, b, g, i, hq]; done) | skip
        refine regv_pure (s1 := ?_) rfl ?_ ?_ ?_ ?_
        rotate_left
        · simp [f, e, d, a, b, g, i]; done
        · simp [f, e, d, a, b, g, i]; rfl
        · first | (simp [f, e, d, a, b, g, i] <;> omega) | (have hq := i; simp at hq; simp [f, e, d, a, b, g, i, hq]; done) | skip
        refine regv_pure (s1 := ?_) rfl ?_ ?_ ?_ ?_
        rotate_left
        · simp [f, e, d, a, b, g, i]; done
        · simp [f, e, d, a, b, g, i]; rfl
        · first | (simp [f, e, d, a, b, g, i] <;> omega) | (have hq := i; simp at hq; simp [f, e, d, a, b, g, i, hq]; done) | skip
        iterate 1
          refine regv_pure (s1 := ?_) rfl rfl ?_ ?_ ?_
          rotate_left
          · simp [f, e, d, a, b, g, i]; rfl
          · first | (simp [f, e, d, a, b, g, i] <;> omega) | (have hq := i; simp at hq; simp [f, e, d, a, b, g, i, hq]; done) | skip
        refine regv_nil ?_
        refine (Decidable.em ((o.E.length : Int) > 1000)).symm.elim (fun j => ?_) (fun j => ?_)
        · rw [if_neg (by simpa using j)] at h
          refine Wp.cond false (by first | (simp [f, e, d, a, b, g, i, j] <;> omega) | (have hq := j; simp at hq; simp [f, e, d, a, b, g, i, j, hq]; done)) (fun h0 => absurd h0 (by decide)) (fun _ => ?_)
          refine Wp.skip ?_
          show Wp _ _ _ _
          refine Wp.reg (own := fun _ => false) tt_ok ?_
          iterate 2
            refine regv_pure (s1 := ?_) rfl rfl ?_ ?_ ?_
            rotate_left
            · simp [f, e, d, a, b, g, i, j]; rfl
            · first | (simp [f, e, d, a, b, g, i, j] <;> omega) | (have hq := j; simp at hq; simp [f, e, d, a, b, g, i, j, hq]; done) | skip
          refine regv_nil ?_
          refine next_mk (IntKind.i64.wrap (k + 1)) h ?_
          refine Reloc.mk2 [] rfl rfl rfl (by decide) ?_ ?_
          · repeat' first | exact objsLe_nil | refine objsLe_cons ?_ ?_
            all_goals first
              | exact trivial
              | (refine ObjLe.var' rfl rfl ?_ rfl
                 repeat' first | exact All2.nil | refine All2.cons ?_ ?_
                 all_goals first | (exact AvLe.refl _ rfl) | (exact AvLe.sl _ _ _ _ rfl) | (exact AvLe.hptr _ _ _ _ rfl) | (exact AvLe.mp _ _ rfl) | (exact AvLe.nil _) | (exact AvLe.znil _) | (exact AvLe.ghost _ rfl) | (exact AvLe.zghost _ rfl) | (exact AvLe.sl' rfl (by simp [f, e, d, a, b, g, i, j]; done) (by first | (simp [f, e, d, a, b, g, i, j] <;> omega) | omega)) | (exact AvLe.frz2 rfl (by simp) rfl (by simp [f, e, d, a, b, g, i, j]; done) (by simp [f, e, d, a, b, g, i, j]; done) (by simp [f, e, d, a, b, g, i, j]; done)) | (exact AvLe.list' (by simp [f, e, d, a, b, g, i, j]; done) (by simp [f, e, d, a, b, g, i, j]; done)) | (exact AvLe.eq (by simp [f, e, d, a, b, g, i, j]; done) rfl))
              | (exact ObjLe.map' rfl rfl)
              | (exact ObjLe.map2 rfl rfl (by first | (simp [f, e, d, a, b, g, i, j]; done) | (simp [f, e, d, a, b, g, i, j]; rfl)))
              | (exact ObjLe.slot' rfl)
              | (exact ObjLe.ghost' rfl (by decide))
              | (exact ObjLe.arr' rfl rfl (by first | (simp [f, e, d, a, b, g, i, j] <;> omega)) (fun _ _ => by first | rfl | (simp [f, e, d, a, b, g, i, j]; done)))
              | ((simp [f, e, d, a, b, g, i, j]; done))
          · repeat' first | exact chLe_nil | refine chLe_cons ?_ ?_ | exact AvLe.refl _ rfl | refine AvLe.aggs ?_ | exact All2.nil | refine All2.cons ?_ ?_
            all_goals first
              | (exact AvLe.refl _ rfl)
              | (exact AvLe.sl _ _ _ _ rfl)
              | (exact AvLe.hptr _ _ _ _ rfl)
              | (exact AvLe.mp _ _ rfl)
              | (exact AvLe.nil _)
              | (exact AvLe.znil _)
              | (exact AvLe.ghost _ rfl)
              | (exact AvLe.zghost _ rfl)
              | (exact AvLe.sl' rfl (by simp [f, e, d, a, b, g, i, j]; done) (by first | (simp [f, e, d, a, b, g, i, j] <;> omega) | omega))
              | (exact AvLe.frz2 rfl (by simp) rfl (by simp [f, e, d, a, b, g, i, j]; done) (by simp [f, e, d, a, b, g, i, j]; done) (by simp [f, e, d, a, b, g, i, j]; done))
              | (exact AvLe.list' (by simp [f, e, d, a, b, g, i, j]; done) (by simp [f, e, d, a, b, g, i, j]; done))
              | (exact AvLe.eq (by simp [f, e, d, a, b, g, i, j]; done) rfl)
        · rw [if_pos (decide_eq_true j)] at h
          refine Wp.cond true (by first | (simp [f, e, d, a, b, g, i, j] <;> omega) | (have hq := j; simp at hq; simp [f, e, d, a, b, g, i, j, hq]; done)) (fun _ => ?_) (fun h0 => absurd h0 (by decide))
          refine Wp.reg_seq (own := fun _ => false) tt_ok ?_
          iterate 1
            refine regv_pure (s1 := ?_) rfl rfl ?_ ?_ ?_
            rotate_left
            · simp [f, e, d, a, b, g, i, j]; rfl
            · first | (simp [f, e, d, a, b, g, i, j] <;> omega) | (have hq := j; simp at hq; simp [f, e, d, a, b, g, i, j, hq]; done) | skip
          refine regv_nil ?_
          cases h
          refine Wp.ret (endQ_ret0 rfl ?_)
          repeat' first | exact All2.nil | refine All2.cons ?_ ?_ | refine AvLe.tups ?_ | refine AvLe.aggs ?_
          all_goals first
            | (exact AvLe.refl _ rfl)
            | (exact AvLe.nil _)
            | (exact AvLe.znil _)
            | (exact AvLe.ghost _ rfl)
            | (exact AvLe.zghost _ rfl)
            | (exact AvLe.sl' rfl (by simp [f, e, d, a, b, g, i, j]; done) (by simp [f, e, d, a, b, g, i, j]; done))
            | (exact AvLe.frz' rfl rfl rfl (by simp [f, e, d, a, b, g, i, j]; done) (by simp [f, e, d, a, b, g, i, j]; done) (by simp [f, e, d, a, b, g, i, j]; done))
            | (exact AvLe.list' (by simp [f, e, d, a, b, g, i, j]; done) (by simp [f, e, d, a, b, g, i, j]; done))
            | (exact AvLe.eq (by simp [f, e, d, a, b, g, i, j]; done) rfl)
      · rw [if_pos (decide_eq_true i)] at h
        refine regv_skip (s1 := ?_) ?_ ?_ ?_
        rotate_left
        · simp [f, e, d, a, b, g, i]; done
        · simp [f, e, d, a, b, g, i]; rfl
        refine regv_skip (s1 := ?_) ?_ ?_ ?_
        rotate_left
        · simp [f, e, d, a, b, g, i]; done
        · simp [f, e, d, a, b, g, i]; rfl
        refine regv_skip (s1 := ?_) ?_ ?_ ?_
        rotate_left
        · simp [f, e, d, a, b, g, i]; done
        · simp [f, e, d, a, b, g, i]; rfl
        refine regv_skip (s1 := ?_) ?_ ?_ ?_
        rotate_left
        · simp [f, e, d, a, b, g, i]; done
        · simp [f, e, d, a, b, g, i]; rfl
        iterate 1
          refine regv_pure (s1 := ?_) rfl rfl ?_ ?_ ?_
          rotate_left
          · simp [f, e, d, a, b, g, i]; rfl
          · first | (simp [f, e, d, a, b, g, i] <;> omega) | (have hq := i; simp at hq; simp [f, e, d, a, b, g, i, hq]; done) | skip
        refine regv_nil ?_
        refine Wp.cond true (by first | (simp [f, e, d, a, b, g, i] <;> omega) | (have hq := i; simp at hq; simp [f, e, d, a, b, g, i, hq]; done)) (fun _ => ?_) (fun h0 => absurd h0 (by decide))
        refine Wp.reg_seq (own := fun _ => false) tt_ok ?_
        iterate 1
          refine regv_pure (s1 := ?_) rfl rfl ?_ ?_ ?_
          rotate_left
          · simp [f, e, d, a, b, g, i]; rfl
          · first | (simp [f, e, d, a, b, g, i] <;> omega) | (have hq := i; simp at hq; simp [f, e, d, a, b, g, i, hq]; done) | skip
        refine regv_nil ?_
        cases h
        refine Wp.ret (endQ_ret0 rfl ?_)
        repeat' first | exact All2.nil | refine All2.cons ?_ ?_ | refine AvLe.tups ?_ | refine AvLe.aggs ?_
        all_goals first
          | (exact AvLe.refl _ rfl)
          | (exact AvLe.nil _)
          | (exact AvLe.znil _)
          | (exact AvLe.ghost _ rfl)
          | (exact AvLe.zghost _ rfl)
          | (exact AvLe.sl' rfl (by simp [f, e, d, a, b, g, i]; done) (by simp [f, e, d, a, b, g, i]; done))
          | (exact AvLe.frz' rfl rfl rfl (by simp [f, e, d, a, b, g, i]; done) (by simp [f, e, d, a, b, g, i]; done) (by simp [f, e, d, a, b, g, i]; done))
          | (exact AvLe.list' (by simp [f, e, d, a, b, g, i]; done) (by simp [f, e, d, a, b, g, i]; done))
          | (exact AvLe.eq (by simp [f, e, d, a, b, g, i]; done) rfl)
    · rw [if_pos (decide_eq_true g)] at h
      refine regv_skip (s1 := ?_) ?_ ?_ ?_
      rotate_left
      · simp [f, e, d, a, b, g]; done
      · simp [f, e, d, a, b, g]; rfl
      refine regv_skip (s1 := ?_) ?_ ?_ ?_
      rotate_left
      · simp [f, e, d, a, b, g]; done
      · simp [f, e, d, a, b, g]; rfl
      refine regv_skip (s1 := ?_) ?_ ?_ ?_
      rotate_left
      · simp [f, e, d, a, b, g]; done
      · simp [f, e, d, a, b, g]; rfl
      refine regv_skip (s1 := ?_) ?_ ?_ ?_
      rotate_left
      · simp [f, e, d, a, b, g]; done
      · simp [f, e, d, a, b, g]; rfl
      iterate 2
        refine regv_pure (s1 := ?_) rfl rfl ?_ ?_ ?_
        rotate_left
        · simp [f, e, d, a, b, g]; rfl
        · first | (simp [f, e, d, a, b, g] <;> omega) | (have hq := g; simp at hq; simp [f, e, d, a, b, g, hq]; done) | skip
      refine regv_skip (s1 := ?_) ?_ ?_ ?_
      rotate_left
      · simp [f, e, d, a, b, g]; done
      · simp [f, e, d, a, b, g]; rfl
      refine regv_skip (s1 := ?_) ?_ ?_ ?_
      rotate_left
      · simp [f, e, d, a, b, g]; done
      · simp [f, e, d, a, b, g]; rfl
      refine regv_skip (s1 := ?_) ?_ ?_ ?_
      rotate_left
      · simp [f, e, d, a, b, g]; done
      · simp [f, e, d, a, b, g]; rfl
      refine regv_skip (s1 := ?_) ?_ ?_ ?_
      rotate_left
      · simp [f, e, d, a, b, g]; done
      · simp [f, e, d, a, b, g]; rfl
      iterate 1
        refine regv_pure (s1 := ?_) rfl rfl ?_ ?_ ?_
        rotate_left
        · simp [f, e, d, a, b, g]; rfl
        · first | (simp [f, e, d, a, b, g] <;> omega) | (have hq := g; simp at hq; simp [f, e, d, a, b, g, hq]; done) | skip
      refine regv_nil ?_
      refine Wp.cond true (by first | (simp [f, e, d, a, b, g] <;> omega) | (have hq := g; simp at hq; simp [f, e, d, a, b, g, hq]; done)) (fun _ => ?_) (fun h0 => absurd h0 (by decide))
      refine Wp.reg_seq (own := fun _ => false) tt_ok ?_
      iterate 1
        refine regv_pure (s1 := ?_) rfl rfl ?_ ?_ ?_
        rotate_left
        · simp [f, e, d, a, b, g]; rfl
        · first | (simp [f, e, d, a, b, g] <;> omega) | (have hq := g; simp at hq; simp [f, e, d, a, b, g, hq]; done) | skip
      refine regv_nil ?_
      cases h
      refine Wp.ret (endQ_ret0 rfl ?_)
      repeat' first | exact All2.nil | refine All2.cons ?_ ?_ | refine AvLe.tups ?_ | refine AvLe.aggs ?_
      all_goals first
        | (exact AvLe.refl _ rfl)
        | (exact AvLe.nil _)
        | (exact AvLe.znil _)
        | (exact AvLe.ghost _ rfl)
        | (exact AvLe.zghost _ rfl)
        | (exact AvLe.sl' rfl (by simp [f, e, d, a, b, g]; done) (by simp [f, e, d, a, b, g]; done))
        | (exact AvLe.frz' rfl rfl rfl (by simp [f, e, d, a, b, g]; done) (by simp [f, e, d, a, b, g]; done) (by simp [f, e, d, a, b, g]; done))
        | (exact AvLe.list' (by simp [f, e, d, a, b, g]; done) (by simp [f, e, d, a, b, g]; done))
        | (exact AvLe.eq (by simp [f, e, d, a, b, g]; done) rfl)

def law12_TooLarge_S1 (n : Nat) (r_0 : ApiRung) (o : Int) : St :=
  { ch := [(1, .hptr 0 0 0), (3, .int .i64 o)], hp := [.var [.str r_0.Label, aL cApiContact r_0.Contacts, aL cApiCoil r_0.Coils, .str r_0.Jump]], base := 0, n := 32, cond := True }

def law12_TooLarge_S2 (n : Nat) (r_0 : ApiRung) (j : Int) (k : Int) : St :=
  { ch := [(1, .hptr 0 0 0), (3, .int .i64 j), (7, aL cApiContact r_0.Contacts), (8, .int .i64 (r_0.Contacts.length : Int)), (9, .int .i64 k)], hp := [.var [.str r_0.Label, aL cApiContact r_0.Contacts, aL cApiCoil r_0.Coils, .str r_0.Jump]], base := 0, n := 32, cond := True }

theorem con_law12_TooLarge {n : Nat} {r_0 : ApiRung} {r : Int} (h : law12_TooLarge n r_0 = some r) : Con Try.prog 10 [.agg (cApiRung r_0)] (.int .i64 r) [] := by
  refine con_of (T := TT0) tt_ok Try.func10 (c := _) (by unfold Try.f10; rfl) Try.ntmps10 (rs := [.tmp 2]) (by rw [Try.results10]) (by unfold Try.f10; rfl) (by simp) ?_
  simp only [argsCh]
  dsimp only [law12_TooLarge] at h
  refine Wp.reg_seq (own := fun _ => false) tt_ok ?_
  iterate 2
    refine regv_pure (s1 := ?_) rfl rfl ?_ ?_ ?_
    rotate_left
    · simp []; rfl
    · first | (simp [] <;> omega) | skip
  refine regv_nil ?_
  refine Wp.reg_seq (own := fun _ => false) tt_ok ?_
  iterate 1
    refine regv_pure (s1 := ?_) rfl rfl ?_ ?_ ?_
    rotate_left
    · simp []; rfl
    · first | (simp [] <;> omega) | skip
  refine regv_nil ?_
  refine Wp.join (α := Int) (fun x => law12_TooLarge_S1 n r_0 x) (fun x => law12_TooLarge_J1 r_0 x = some r) ?_ ?_
  · clear h
    rintro o h
    simp only [law12_TooLarge_S1]
    dsimp only [law12_TooLarge_J1] at h
    refine Wp.seq ?_
    refine Wp.reg_seq (own := fun _ => false) tt_ok ?_
    iterate 3
      refine regv_pure (s1 := ?_) rfl rfl ?_ ?_ ?_
      rotate_left
      · simp []; rfl
      · first | (simp [] <;> omega) | skip
    refine (Decidable.em (o > 2000)).symm.elim (fun a => ?_) (fun a => ?_)
    · rw [if_neg (by simpa using a)] at h
      refine regv_pure (s1 := ?_) rfl ?_ ?_ ?_ ?_
      rotate_left
      · simp [a]; done
      · simp [a]; rfl
      · first | (simp [a] <;> omega) | (have hq := a; simp at hq; simp [a, hq]; done) | skip
      refine regv_pure (s1 := ?_) rfl ?_ ?_ ?_ ?_
      rotate_left
      · simp [a]; done
      · simp [a]; rfl
      · first | (simp [a] <;> omega) | (have hq := a; simp at hq; simp [a, hq]; done) | skip
      refine regv_pure (s1 := ?_) rfl ?_ ?_ ?_ ?_
      rotate_left
      · simp [a]; done
      · simp [a]; rfl
      · first | (simp [a] <;> omega) | (have hq := a; simp at hq; simp [a, hq]; done) | skip
      refine regv_pure (s1 := ?_) rfl ?_ ?_ ?_ ?_
      rotate_left
      · simp [a]; done
      · simp [a]; rfl
      · first | (simp [a] <;> omega) | (have hq := a; simp at hq; simp [a, hq]; done) | skip
      iterate 1
        refine regv_pure (s1 := ?_) rfl rfl ?_ ?_ ?_
        rotate_left
        · simp [a]; rfl
        · first | (simp [a] <;> omega) | (have hq := a; simp at hq; simp [a, hq]; done) | skip
      refine regv_nil ?_
      refine (Decidable.em ((r_0.Contacts.length : Int) > 60)).symm.elim (fun i => ?_) (fun i => ?_)
      · rw [if_neg (by simpa using i)] at h
        refine Wp.cond false (by first | (simp [a, i] <;> omega) | (have hq := i; simp at hq; simp [a, i, hq]; done)) (fun h0 => absurd h0 (by decide)) (fun _ => ?_)
        refine Wp.skip ?_
        show Wp _ _ _ _
        refine Wp.reg_seq (own := fun _ => false) tt_ok ?_
        iterate 1
          refine regv_pure (s1 := ?_) rfl rfl ?_ ?_ ?_
          rotate_left
          · simp [a, i]; rfl
          · first | (simp [a, i] <;> omega) | (have hq := i; simp at hq; simp [a, i, hq]; done) | skip
        refine regv_nil ?_
        cases h
        refine Wp.ret (endQ_ret0 rfl ?_)
        repeat' first | exact All2.nil | refine All2.cons ?_ ?_ | refine AvLe.tups ?_ | refine AvLe.aggs ?_
        all_goals first
          | (exact AvLe.refl _ rfl)
          | (exact AvLe.nil _)
          | (exact AvLe.znil _)
          | (exact AvLe.ghost _ rfl)
          | (exact AvLe.zghost _ rfl)
          | (exact AvLe.sl' rfl (by simp [a, i]; done) (by simp [a, i]; done))
          | (exact AvLe.frz' rfl rfl rfl (by simp [a, i]; done) (by simp [a, i]; done) (by simp [a, i]; done))
          | (exact AvLe.list' (by simp [a, i]; done) (by simp [a, i]; done))
          | (exact AvLe.eq (by simp [a, i]; done) rfl)
      · rw [if_pos (decide_eq_true i)] at h
        refine Wp.cond true (by first | (simp [a, i] <;> omega) | (have hq := i; simp at hq; simp [a, i, hq]; done)) (fun _ => ?_) (fun h0 => absurd h0 (by decide))
        refine Wp.reg_seq (own := fun _ => false) tt_ok ?_
        iterate 1
          refine regv_pure (s1 := ?_) rfl rfl ?_ ?_ ?_
          rotate_left
          · simp [a, i]; rfl
          · first | (simp [a, i] <;> omega) | (have hq := i; simp at hq; simp [a, i, hq]; done) | skip
        refine regv_nil ?_
        cases h
        refine Wp.ret (endQ_ret0 rfl ?_)
        repeat' first | exact All2.nil | refine All2.cons ?_ ?_ | refine AvLe.tups ?_ | refine AvLe.aggs ?_
        all_goals first
          | (exact AvLe.refl _ rfl)
          | (exact AvLe.nil _)
          | (exact AvLe.znil _)
          | (exact AvLe.ghost _ rfl)
          | (exact AvLe.zghost _ rfl)
          | (exact AvLe.sl' rfl (by simp [a, i]; done) (by simp [a, i]; done))
          | (exact AvLe.frz' rfl rfl rfl (by simp [a, i]; done) (by simp [a, i]; done) (by simp [a, i]; done))
          | (exact AvLe.list' (by simp [a, i]; done) (by simp [a, i]; done))
          | (exact AvLe.eq (by simp [a, i]; done) rfl)
    · rw [if_pos (decide_eq_true a)] at h
      refine regv_skip (s1 := ?_) ?_ ?_ ?_
      rotate_left
      · simp [a]; done
      · simp [a]; rfl
      refine regv_skip (s1 := ?_) ?_ ?_ ?_
      rotate_left
      · simp [a]; done
      · simp [a]; rfl
      refine regv_skip (s1 := ?_) ?_ ?_ ?_
      rotate_left
      · simp [a]; done
      · simp [a]; rfl
      refine regv_skip (s1 := ?_) ?_ ?_ ?_
      rotate_left
      · simp [a]; done
      · simp [a]; rfl
      iterate 1
        refine regv_pure (s1 := ?_) rfl rfl ?_ ?_ ?_
        rotate_left
        · simp [a]; rfl
        · first | (simp [a] <;> omega) | (have hq := a; simp at hq; simp [a, hq]; done) | skip
      refine regv_nil ?_
      refine Wp.cond true (by first | (simp [a] <;> omega) | (have hq := a; simp at hq; simp [a, hq]; done)) (fun _ => ?_) (fun h0 => absurd h0 (by decide))
      refine Wp.reg_seq (own := fun _ => false) tt_ok ?_
      iterate 1
        refine regv_pure (s1 := ?_) rfl rfl ?_ ?_ ?_
        rotate_left
        · simp [a]; rfl
        · first | (simp [a] <;> omega) | (have hq := a; simp at hq; simp [a, hq]; done) | skip
      refine regv_nil ?_
      cases h
      refine Wp.ret (endQ_ret0 rfl ?_)
      repeat' first | exact All2.nil | refine All2.cons ?_ ?_ | refine AvLe.tups ?_ | refine AvLe.aggs ?_
      all_goals first
        | (exact AvLe.refl _ rfl)
        | (exact AvLe.nil _)
        | (exact AvLe.znil _)
        | (exact AvLe.ghost _ rfl)
        | (exact AvLe.zghost _ rfl)
        | (exact AvLe.sl' rfl (by simp [a]; done) (by simp [a]; done))
        | (exact AvLe.frz' rfl rfl rfl (by simp [a]; done) (by simp [a]; done) (by simp [a]; done))
        | (exact AvLe.list' (by simp [a]; done) (by simp [a]; done))
        | (exact AvLe.eq (by simp [a]; done) rfl)
  · skip
    refine Wp.reg_seq (own := fun _ => false) tt_ok ?_
    iterate 4
      refine regv_pure (s1 := ?_) rfl rfl ?_ ?_ ?_
      rotate_left
      · simp []; rfl
      · first | (simp [] <;> omega) | skip
    refine regv_nil ?_
    refine Wp.block ?_
    refine Wp.loopF (α := Int × Int) (fun x => law12_TooLarge_S2 n r_0 x.1 x.2) (fun m x => law12_TooLarge_L2 r_0 m x.1 x.2 = some r) (fun _ h => by cases h) ?_ n (0, 0) h ?_
    rotate_left
    · simp only [law12_TooLarge_S2]
      refine Reloc.mk2 [some 0] rfl rfl rfl (by decide) ?_ ?_
      · repeat' first | exact objsLe_nil | refine objsLe_cons ?_ ?_
        all_goals first
          | exact trivial
          | (refine ObjLe.var' rfl rfl ?_ rfl
             repeat' first | exact All2.nil | refine All2.cons ?_ ?_
             all_goals first | (exact AvLe.refl _ rfl) | (exact AvLe.sl _ _ _ _ rfl) | (exact AvLe.hptr _ _ _ _ rfl) | (exact AvLe.mp _ _ rfl) | (exact AvLe.nil _) | (exact AvLe.znil _) | (exact AvLe.ghost _ rfl) | (exact AvLe.zghost _ rfl) | (exact AvLe.sl' rfl (by simp []; done) (by first | (simp [] <;> omega) | omega)) | (exact AvLe.frz2 rfl (by simp) rfl (by simp []; done) (by simp []; done) (by simp []; done)) | (exact AvLe.list' (by simp []; done) (by simp []; done)) | (exact AvLe.eq (by simp []; done) rfl))
          | (exact ObjLe.map' rfl rfl)
          | (exact ObjLe.map2 rfl rfl (by first | (simp []; done) | (simp []; rfl)))
          | (exact ObjLe.slot' rfl)
          | (exact ObjLe.ghost' rfl (by decide))
          | (exact ObjLe.arr' rfl rfl (by first | (simp [] <;> omega)) (fun _ _ => by first | rfl | (simp []; done)))
          | ((simp []; done))
      · repeat' first | exact chLe_nil | refine chLe_cons ?_ ?_ | exact AvLe.refl _ rfl | refine AvLe.aggs ?_ | exact All2.nil | refine All2.cons ?_ ?_
        all_goals first
          | (exact AvLe.refl _ rfl)
          | (exact AvLe.sl _ _ _ _ rfl)
          | (exact AvLe.hptr _ _ _ _ rfl)
          | (exact AvLe.mp _ _ rfl)
          | (exact AvLe.nil _)
          | (exact AvLe.znil _)
          | (exact AvLe.ghost _ rfl)
          | (exact AvLe.zghost _ rfl)
          | (exact AvLe.sl' rfl (by simp []; done) (by first | (simp [] <;> omega) | omega))
          | (exact AvLe.frz2 rfl (by simp) rfl (by simp []; done) (by simp []; done) (by simp []; done))
          | (exact AvLe.list' (by simp []; done) (by simp []; done))
          | (exact AvLe.eq (by simp []; done) rfl)
    rintro rec_n2 ⟨j, k⟩ h
    simp only [law12_TooLarge_S2]
    dsimp only [law12_TooLarge_L2] at h
    refine Wp.reg_seq (own := fun _ => false) tt_ok ?_
    iterate 1
      refine regv_pure (s1 := ?_) rfl rfl ?_ ?_ ?_
      rotate_left
      · simp []; rfl
      · first | (simp [] <;> omega) | skip
    refine regv_nil ?_
    refine Wp.seq ?_
    refine (Decidable.em (k < (r_0.Contacts.length : Int))).symm.elim (fun b => ?_) (fun b => ?_)
    · rw [if_neg (by simpa using b)] at h
      refine Wp.cond false (by first | (simp [b] <;> omega) | (have hq := b; simp at hq; simp [b, hq]; done)) (fun h0 => absurd h0 (by decide)) (fun _ => ?_)
      refine Wp.exit ?_
      refine next_mk j h ?_
      refine Reloc.mk2 [some 0] rfl rfl rfl (by decide) ?_ ?_
      · repeat' first | exact objsLe_nil | refine objsLe_cons ?_ ?_
        all_goals first
          | exact trivial
          | (refine ObjLe.var' rfl rfl ?_ rfl
             repeat' first | exact All2.nil | refine All2.cons ?_ ?_
             all_goals first | (exact AvLe.refl _ rfl) | (exact AvLe.sl _ _ _ _ rfl) | (exact AvLe.hptr _ _ _ _ rfl) | (exact AvLe.mp _ _ rfl) | (exact AvLe.nil _) | (exact AvLe.znil _) | (exact AvLe.ghost _ rfl) | (exact AvLe.zghost _ rfl) | (exact AvLe.sl' rfl (by simp [b]; done) (by first | (simp [b] <;> omega) | omega)) | (exact AvLe.frz2 rfl (by simp) rfl (by simp [b]; done) (by simp [b]; done) (by simp [b]; done)) | (exact AvLe.list' (by simp [b]; done) (by simp [b]; done)) | (exact AvLe.eq (by simp [b]; done) rfl))
          | (exact ObjLe.map' rfl rfl)
          | (exact ObjLe.map2 rfl rfl (by first | (simp [b]; done) | (simp [b]; rfl)))
          | (exact ObjLe.slot' rfl)
          | (exact ObjLe.ghost' rfl (by decide))
          | (exact ObjLe.arr' rfl rfl (by first | (simp [b] <;> omega)) (fun _ _ => by first | rfl | (simp [b]; done)))
          | ((simp [b]; done))
      · repeat' first | exact chLe_nil | refine chLe_cons ?_ ?_ | exact AvLe.refl _ rfl | refine AvLe.aggs ?_ | exact All2.nil | refine All2.cons ?_ ?_
        all_goals first
          | (exact AvLe.refl _ rfl)
          | (exact AvLe.sl _ _ _ _ rfl)
          | (exact AvLe.hptr _ _ _ _ rfl)
          | (exact AvLe.mp _ _ rfl)
          | (exact AvLe.nil _)
          | (exact AvLe.znil _)
          | (exact AvLe.ghost _ rfl)
          | (exact AvLe.zghost _ rfl)
          | (exact AvLe.sl' rfl (by simp [b]; done) (by first | (simp [b] <;> omega) | omega))
          | (exact AvLe.frz2 rfl (by simp) rfl (by simp [b]; done) (by simp [b]; done) (by simp [b]; done))
          | (exact AvLe.list' (by simp [b]; done) (by simp [b]; done))
          | (exact AvLe.eq (by simp [b]; done) rfl)
    · rw [if_pos (decide_eq_true b)] at h
      refine Wp.cond true (by first | (simp [b] <;> omega) | (have hq := b; simp at hq; simp [b, hq]; done)) (fun _ => ?_) (fun h0 => absurd h0 (by decide))
      refine Wp.skip ?_
      show Wp _ _ _ _
      refine Wp.seq ?_
      refine Wp.block ?_
      refine Wp.reg_seq (own := fun _ => false) tt_ok ?_
      obtain ⟨p, q, h⟩ := obind h
      obtain ⟨g, f, e⟩ := atI_some q
      try simp [b] at f
      try simp only [Int.toNat_natCast, Int.reduceToNat, Nat.zero_add, Nat.add_zero] at e
      have d := getElem_of e
      iterate 4
        refine regv_pure (s1 := ?_) rfl rfl ?_ ?_ ?_
        rotate_left
        · simp [b, g, f, e, d]; rfl
        · first | (simp [b, g, f, e, d] <;> omega) | (have hq := d; simp at hq; simp [b, g, f, e, d, hq]; done) | skip
      refine regv_nil ?_
      refine Wp.reg (own := fun _ => false) tt_ok ?_
      iterate 11
        refine regv_pure (s1 := ?_) rfl rfl ?_ ?_ ?_
        rotate_left
        · simp [b, g, f, e, d]; rfl
        · first | (simp [b, g, f, e, d] <;> omega) | (have hq := d; simp at hq; simp [b, g, f, e, d, hq]; done) | skip
      refine regv_nil ?_
      show Wp _ _ _ _
      refine Wp.reg (own := fun _ => false) tt_ok ?_
      iterate 2
        refine regv_pure (s1 := ?_) rfl rfl ?_ ?_ ?_
        rotate_left
        · simp [b, g, f, e, d]; rfl
        · first | (simp [b, g, f, e, d] <;> omega) | (have hq := d; simp at hq; simp [b, g, f, e, d, hq]; done) | skip
      refine regv_nil ?_
      refine next_mk ((IntKind.i64.wrap (j + (IntKind.i64.wrap ((IntKind.i64.wrap (1 + (p.From.size : Int))) + (p.To.size : Int))))), (IntKind.i64.wrap (k + 1))) h ?_
      refine Reloc.mk2 [some 0] rfl rfl rfl (by decide) ?_ ?_
      · repeat' first | exact objsLe_nil | refine objsLe_cons ?_ ?_
        all_goals first
          | exact trivial
          | (refine ObjLe.var' rfl rfl ?_ rfl
             repeat' first | exact All2.nil | refine All2.cons ?_ ?_
             all_goals first | (exact AvLe.refl _ rfl) | (exact AvLe.sl _ _ _ _ rfl) | (exact AvLe.hptr _ _ _ _ rfl) | (exact AvLe.mp _ _ rfl) | (exact AvLe.nil _) | (exact AvLe.znil _) | (exact AvLe.ghost _ rfl) | (exact AvLe.zghost _ rfl) | (exact AvLe.sl' rfl (by simp [b, g, f, e, d]; done) (by first | (simp [b, g, f, e, d] <;> omega) | omega)) | (exact AvLe.frz2 rfl (by simp) rfl (by simp [b, g, f, e, d]; done) (by simp [b, g, f, e, d]; done) (by simp [b, g, f, e, d]; done)) | (exact AvLe.list' (by simp [b, g, f, e, d]; done) (by simp [b, g, f, e, d]; done)) | (exact AvLe.eq (by simp [b, g, f, e, d]; done) rfl))
          | (exact ObjLe.map' rfl rfl)
          | (exact ObjLe.map2 rfl rfl (by first | (simp [b, g, f, e, d]; done) | (simp [b, g, f, e, d]; rfl)))
          | (exact ObjLe.slot' rfl)
          | (exact ObjLe.ghost' rfl (by decide))
          | (exact ObjLe.arr' rfl rfl (by first | (simp [b, g, f, e, d] <;> omega)) (fun _ _ => by first | rfl | (simp [b, g, f, e, d]; done)))
          | ((simp [b, g, f, e, d]; done))
      · repeat' first | exact chLe_nil | refine chLe_cons ?_ ?_ | exact AvLe.refl _ rfl | refine AvLe.aggs ?_ | exact All2.nil | refine All2.cons ?_ ?_
        all_goals first
          | (exact AvLe.refl _ rfl)
          | (exact AvLe.sl _ _ _ _ rfl)
          | (exact AvLe.hptr _ _ _ _ rfl)
          | (exact AvLe.mp _ _ rfl)
          | (exact AvLe.nil _)
          | (exact AvLe.znil _)
          | (exact AvLe.ghost _ rfl)
          | (exact AvLe.zghost _ rfl)
          | (exact AvLe.sl' rfl (by simp [b, g, f, e, d]; done) (by first | (simp [b, g, f, e, d] <;> omega) | omega))
          | (exact AvLe.frz2 rfl (by simp) rfl (by simp [b, g, f, e, d]; done) (by simp [b, g, f, e, d]; done) (by simp [b, g, f, e, d]; done))
          | (exact AvLe.list' (by simp [b, g, f, e, d]; done) (by simp [b, g, f, e, d]; done))
          | (exact AvLe.eq (by simp [b, g, f, e, d]; done) rfl)

theorem con_law16_tooLarge {n : Nat} {r_0 : ApiRung} {in1 : List Bool} {st2 : ApiState} {r : Bool} (h : law16_tooLarge n r_0 in1 st2 = some r) : Con Try.prog 14 [.agg (cApiRung r_0), aL cB in1, .agg (cApiState st2)] (.bool r) [] := by
  refine con_of (T := TT0) tt_ok Try.func14 (c := _) (by unfold Try.f14; rfl) Try.ntmps14 (rs := [.tmp 6]) (by rw [Try.results14]) (by unfold Try.f14; rfl) (by simp) ?_
  simp only [argsCh]
  dsimp only [law16_tooLarge] at h
  refine Wp.reg_seq (own := fun _ => false) tt_ok ?_
  iterate 3
    refine regv_pure (s1 := ?_) rfl rfl ?_ ?_ ?_
    rotate_left
    · simp []; rfl
    · first | (simp [] <;> omega) | skip
  refine regv_nil ?_
  refine Wp.reg_seq (own := fun _ => false) tt_ok ?_
  iterate 1
    refine regv_pure (s1 := ?_) rfl rfl ?_ ?_ ?_
    rotate_left
    · simp []; rfl
    · first | (simp [] <;> omega) | skip
  obtain ⟨k, i, h⟩ := obind h
  refine regv_call2 (s' := ?_) (p := ?_) (con_law12_TooLarge i) rfl rfl rfl rfl ?_ ?_ ?_ ?_ ?_ ?_
  rotate_left 2
  · simp []; rfl
  · first | exact .inl rfl | (refine .inl ?_; simp []; done) | (refine .inr ?_; dsimp only; repeat' first | exact All2.nil | refine All2.cons ?_ ?_ | exact AvLe.refl _ rfl | refine AvLe.aggs ?_) <;> first | exact AvLe.refl _ rfl | exact AvLe.nil _ | exact AvLe.znil _ | exact AvLe.list' (by first | (simp [] <;> omega)) (by simp []; done) | exact AvLe.eq (by simp []; done) rfl
  · first | (simp [] <;> omega) | skip
  · simp
  · simp []; rfl
  iterate 2
    refine regv_pure (s1 := ?_) rfl rfl ?_ ?_ ?_
    rotate_left
    · simp []; rfl
    · first | (simp [] <;> omega) | skip
  refine (Decidable.em (k > 0)).symm.elim (fun a => ?_) (fun a => ?_)
  · rw [if_neg (by simpa using a)] at h
    refine regv_pure (s1 := ?_) rfl ?_ ?_ ?_ ?_
    rotate_left
    · simp [a]; done
    · simp [a]; rfl
    · first | (simp [a] <;> omega) | (have hq := a; simp at hq; simp [a, hq]; done) | skip
    refine regv_pure (s1 := ?_) rfl ?_ ?_ ?_ ?_
    rotate_left
    · simp [a]; done
    · simp [a]; rfl
    · first | (simp [a] <;> omega) | (have hq := a; simp at hq; simp [a, hq]; done) | skip
    refine regv_pure (s1 := ?_) rfl ?_ ?_ ?_ ?_
    rotate_left
    · simp [a]; done
    · simp [a]; rfl
    · first | (simp [a] <;> omega) | (have hq := a; simp at hq; simp [a, hq]; done) | skip
    refine regv_pure (s1 := ?_) rfl ?_ ?_ ?_ ?_
    rotate_left
    · simp [a]; done
    · simp [a]; rfl
    · first | (simp [a] <;> omega) | (have hq := a; simp at hq; simp [a, hq]; done) | skip
    iterate 2
      refine regv_pure (s1 := ?_) rfl rfl ?_ ?_ ?_
      rotate_left
      · simp [a]; rfl
      · first | (simp [a] <;> omega) | (have hq := a; simp at hq; simp [a, hq]; done) | skip
    refine (Decidable.em ((r_0.Coils.length : Int) > 100)).symm.elim (fun b => ?_) (fun b => ?_)
    · rw [if_neg (by simpa using b)] at h
      refine regv_pure (s1 := ?_) rfl ?_ ?_ ?_ ?_
      rotate_left
      · simp [a, b]; done
      · simp [a, b]; rfl
      · first | (simp [a, b] <;> omega) | (have hq := b; simp at hq; simp [a, b, hq]; done) | skip
      refine regv_pure (s1 := ?_) rfl ?_ ?_ ?_ ?_
      rotate_left
      · simp [a, b]; done
      · simp [a, b]; rfl
      · first | (simp [a, b] <;> omega) | (have hq := b; simp at hq; simp [a, b, hq]; done) | skip
      refine regv_pure (s1 := ?_) rfl ?_ ?_ ?_ ?_
      rotate_left
      · simp [a, b]; done
      · simp [a, b]; rfl
      · first | (simp [a, b] <;> omega) | (have hq := b; simp at hq; simp [a, b, hq]; done) | skip
      iterate 2
        refine regv_pure (s1 := ?_) rfl rfl ?_ ?_ ?_
        rotate_left
        · simp [a, b]; rfl
        · first | (simp [a, b] <;> omega) | (have hq := b; simp at hq; simp [a, b, hq]; done) | skip
      refine (Decidable.em ((in1.length : Int) > 500)).symm.elim (fun d => ?_) (fun d => ?_)
      · rw [if_neg (by simpa using d)] at h
        refine regv_pure (s1 := ?_) rfl ?_ ?_ ?_ ?_
        rotate_left
        · simp [a, b, d]; done
        · simp [a, b, d]; rfl
        · first | (simp [a, b, d] <;> omega) | (have hq := d; simp at hq; simp [a, b, d, hq]; done) | skip
        refine regv_pure (s1 := ?_) rfl ?_ ?_ ?_ ?_
        rotate_left
        · simp [a, b, d]; done
        · simp [a, b, d]; rfl
        · first | (simp [a, b, d] <;> omega) | (have hq := d; simp at hq; simp [a, b, d, hq]; done) | skip
        obtain ⟨m, g, h⟩ := obind h
        have f := congrArg (List.map cApiState) (Option.some.inj g)
        have e := (congrArg List.length (Option.some.inj g)).symm
        try simp [a, b, d] at f
        try simp [a, b, d] at e
        clear g
        try simp only [f]
        obtain ⟨o, j, h⟩ := obind h
        refine regv_call2 (s' := ?_) (p := ?_) (con_law03_TooLarge j) rfl rfl rfl rfl ?_ ?_ ?_ ?_ ?_ ?_
        rotate_left 2
        · simp [a, b, d, f, e]; rfl
        · first | exact .inl rfl | (refine .inl ?_; simp [a, b, d, f, e]; done) | (refine .inr ?_; dsimp only; repeat' first | exact All2.nil | refine All2.cons ?_ ?_ | exact AvLe.refl _ rfl | refine AvLe.aggs ?_) <;> first | exact AvLe.refl _ rfl | exact AvLe.nil _ | exact AvLe.znil _ | exact AvLe.list' (by first | (simp [a, b, d, f, e] <;> omega)) (by simp [a, b, d, f, e]; done) | exact AvLe.eq (by simp [a, b, d, f, e]; done) rfl
        · first | (simp [a, b, d, f, e] <;> omega) | (have hq := e; simp at hq; simp [a, b, d, f, e, hq]; done) | skip
        · simp
        · simp [a, b, d, f, e]; rfl
        refine regv_pure (s1 := ?_) rfl ?_ ?_ ?_ ?_
        rotate_left
        · simp [a, b, d, f, e]; done
        · simp [a, b, d, f, e]; rfl
        · first | (simp [a, b, d, f, e] <;> omega) | (have hq := e; simp at hq; simp [a, b, d, f, e, hq]; done) | skip
        iterate 2
          refine regv_pure (s1 := ?_) rfl rfl ?_ ?_ ?_
          rotate_left
          · simp [a, b, d, f, e]; rfl
          · first | (simp [a, b, d, f, e] <;> omega) | (have hq := e; simp at hq; simp [a, b, d, f, e, hq]; done) | skip
        refine regv_nil ?_
        cases h
        refine Wp.ret (endQ_ret0 rfl ?_)
        repeat' first | exact All2.nil | refine All2.cons ?_ ?_ | refine AvLe.tups ?_ | refine AvLe.aggs ?_
        all_goals first
          | (exact AvLe.refl _ rfl)
          | (exact AvLe.nil _)
          | (exact AvLe.znil _)
          | (exact AvLe.ghost _ rfl)
          | (exact AvLe.zghost _ rfl)
          | (exact AvLe.sl' rfl (by simp [a, b, d, f, e]; done) (by simp [a, b, d, f, e]; done))
          | (exact AvLe.frz' rfl rfl rfl (by simp [a, b, d, f, e]; done) (by simp [a, b, d, f, e]; done) (by simp [a, b, d, f, e]; done))
          | (exact AvLe.list' (by simp [a, b, d, f, e]; done) (by simp [a, b, d, f, e]; done))
          | (exact AvLe.eq (by simp [a, b, d, f, e]; done) rfl)
      · rw [if_pos (decide_eq_true d)] at h
        refine regv_skip (s1 := ?_) ?_ ?_ ?_
        rotate_left
        · simp [a, b, d]; done
        · simp [a, b, d]; rfl
        refine regv_skip (s1 := ?_) ?_ ?_ ?_
        rotate_left
        · simp [a, b, d]; done
        · simp [a, b, d]; rfl
        refine regv_skip (s1 := ?_) ?_ ?_ ?_
        rotate_left
        · simp [a, b, d]; done
        · simp [a, b, d]; rfl
        refine regv_skip (s1 := ?_) ?_ ?_ ?_
        rotate_left
        · simp [a, b, d]; done
        · simp [a, b, d]; rfl
        iterate 2
          refine regv_pure (s1 := ?_) rfl rfl ?_ ?_ ?_
          rotate_left
          · simp [a, b, d]; rfl
          · first | (simp [a, b, d] <;> omega) | (have hq := d; simp at hq; simp [a, b, d, hq]; done) | skip
        refine regv_nil ?_
        cases h
        refine Wp.ret (endQ_ret0 rfl ?_)
        repeat' first | exact All2.nil | refine All2.cons ?_ ?_ | refine AvLe.tups ?_ | refine AvLe.aggs ?_
        all_goals first
          | (exact AvLe.refl _ rfl)
          | (exact AvLe.nil _)
          | (exact AvLe.znil _)
          | (exact AvLe.ghost _ rfl)
          | (exact AvLe.zghost _ rfl)
          | (exact AvLe.sl' rfl (by simp [a, b, d]; done) (by simp [a, b, d]; done))
          | (exact AvLe.frz' rfl rfl rfl (by simp [a, b, d]; done) (by simp [a, b, d]; done) (by simp [a, b, d]; done))
          | (exact AvLe.list' (by simp [a, b, d]; done) (by simp [a, b, d]; done))
          | (exact AvLe.eq (by simp [a, b, d]; done) rfl)
    · rw [if_pos (decide_eq_true b)] at h
      refine regv_skip (s1 := ?_) ?_ ?_ ?_
      rotate_left
      · simp [a, b]; done
      · simp [a, b]; rfl
      refine regv_skip (s1 := ?_) ?_ ?_ ?_
      rotate_left
      · simp [a, b]; done
      · simp [a, b]; rfl
      refine regv_skip (s1 := ?_) ?_ ?_ ?_
      rotate_left
      · simp [a, b]; done
      · simp [a, b]; rfl
      iterate 2
        refine regv_pure (s1 := ?_) rfl rfl ?_ ?_ ?_
        rotate_left
        · simp [a, b]; rfl
        · first | (simp [a, b] <;> omega) | (have hq := b; simp at hq; simp [a, b, hq]; done) | skip
      refine regv_skip (s1 := ?_) ?_ ?_ ?_
      rotate_left
      · simp [a, b]; done
      · simp [a, b]; rfl
      refine regv_skip (s1 := ?_) ?_ ?_ ?_
      rotate_left
      · simp [a, b]; done
      · simp [a, b]; rfl
      refine regv_skip (s1 := ?_) ?_ ?_ ?_
      rotate_left
      · simp [a, b]; done
      · simp [a, b]; rfl
      refine regv_skip (s1 := ?_) ?_ ?_ ?_
      rotate_left
      · simp [a, b]; done
      · simp [a, b]; rfl
      iterate 2
        refine regv_pure (s1 := ?_) rfl rfl ?_ ?_ ?_
        rotate_left
        · simp [a, b]; rfl
        · first | (simp [a, b] <;> omega) | (have hq := b; simp at hq; simp [a, b, hq]; done) | skip
      refine regv_nil ?_
      cases h
      refine Wp.ret (endQ_ret0 rfl ?_)
      repeat' first | exact All2.nil | refine All2.cons ?_ ?_ | refine AvLe.tups ?_ | refine AvLe.aggs ?_
      all_goals first
        | (exact AvLe.refl _ rfl)
        | (exact AvLe.nil _)
        | (exact AvLe.znil _)
        | (exact AvLe.ghost _ rfl)
        | (exact AvLe.zghost _ rfl)
        | (exact AvLe.sl' rfl (by simp [a, b]; done) (by simp [a, b]; done))
        | (exact AvLe.frz' rfl rfl rfl (by simp [a, b]; done) (by simp [a, b]; done) (by simp [a, b]; done))
        | (exact AvLe.list' (by simp [a, b]; done) (by simp [a, b]; done))
        | (exact AvLe.eq (by simp [a, b]; done) rfl)
  · rw [if_pos (decide_eq_true a)] at h
    refine regv_skip (s1 := ?_) ?_ ?_ ?_
    rotate_left
    · simp [a]; done
    · simp [a]; rfl
    refine regv_skip (s1 := ?_) ?_ ?_ ?_
    rotate_left
    · simp [a]; done
    · simp [a]; rfl
    refine regv_skip (s1 := ?_) ?_ ?_ ?_
    rotate_left
    · simp [a]; done
    · simp [a]; rfl
    refine regv_skip (s1 := ?_) ?_ ?_ ?_
    rotate_left
    · simp [a]; done
    · simp [a]; rfl
    iterate 2
      refine regv_pure (s1 := ?_) rfl rfl ?_ ?_ ?_
      rotate_left
      · simp [a]; rfl
      · first | (simp [a] <;> omega) | (have hq := a; simp at hq; simp [a, hq]; done) | skip
    refine regv_skip (s1 := ?_) ?_ ?_ ?_
    rotate_left
    · simp [a]; done
    · simp [a]; rfl
    refine regv_skip (s1 := ?_) ?_ ?_ ?_
    rotate_left
    · simp [a]; done
    · simp [a]; rfl
    refine regv_skip (s1 := ?_) ?_ ?_ ?_
    rotate_left
    · simp [a]; done
    · simp [a]; rfl
    iterate 2
      refine regv_pure (s1 := ?_) rfl rfl ?_ ?_ ?_
      rotate_left
      · simp [a]; rfl
      · first | (simp [a] <;> omega) | (have hq := a; simp at hq; simp [a, hq]; done) | skip
    refine regv_skip (s1 := ?_) ?_ ?_ ?_
    rotate_left
    · simp [a]; done
    · simp [a]; rfl
    refine regv_skip (s1 := ?_) ?_ ?_ ?_
    rotate_left
    · simp [a]; done
    · simp [a]; rfl
    refine regv_skip (s1 := ?_) ?_ ?_ ?_
    rotate_left
    · simp [a]; done
    · simp [a]; rfl
    refine regv_skip (s1 := ?_) ?_ ?_ ?_
    rotate_left
    · simp [a]; done
    · simp [a]; rfl
    iterate 2
      refine regv_pure (s1 := ?_) rfl rfl ?_ ?_ ?_
      rotate_left
      · simp [a]; rfl
      · first | (simp [a] <;> omega) | (have hq := a; simp at hq; simp [a, hq]; done) | skip
    refine regv_nil ?_
    cases h
    refine Wp.ret (endQ_ret0 rfl ?_)
    repeat' first | exact All2.nil | refine All2.cons ?_ ?_ | refine AvLe.tups ?_ | refine AvLe.aggs ?_
    all_goals first
      | (exact AvLe.refl _ rfl)
      | (exact AvLe.nil _)
      | (exact AvLe.znil _)
      | (exact AvLe.ghost _ rfl)
      | (exact AvLe.zghost _ rfl)
      | (exact AvLe.sl' rfl (by simp [a]; done) (by simp [a]; done))
      | (exact AvLe.frz' rfl rfl rfl (by simp [a]; done) (by simp [a]; done) (by simp [a]; done))
      | (exact AvLe.list' (by simp [a]; done) (by simp [a]; done))
      | (exact AvLe.eq (by simp [a]; done) rfl)

theorem con_state_Clone {n : Nat} {st0 : ApiState} {r : ApiState} (h : state_Clone n st0 = some r) : Con Try.prog 29 [.agg (cApiState st0)] (.agg (cApiState r)) [] := by
  refine con_of (T := TT0) tt_ok Try.func29 (c := _) (by unfold Try.f29; rfl) Try.ntmps29 (rs := [.cell 2 36]) (by rw [Try.results29]) (by unfold Try.f29; rfl) (by simp) ?_
  simp only [argsCh]
  dsimp only [state_Clone] at h
  refine Wp.reg_seq (own := fun _ => false) tt_ok ?_
  iterate 2
    refine regv_pure (s1 := ?_) rfl rfl ?_ ?_ ?_
    rotate_left
    · simp []; rfl
    · first | (simp [] <;> omega) | skip
  refine regv_nil ?_
  refine Wp.drawn (own := fun _ => false) tt_ok mixed [0] (by decide +kernel) trivial ?_
  refine regI_upto 2 (r := ?_) ?_ ?_ ?_
  rotate_left
  · simp [List.range, List.range.loop]; rfl
  · first | (simp [] <;> omega) | skip
  obtain ⟨e, a, h⟩ := obind h
  refine regI_call2 (s1 := ?_) (p := ?_) (con_slices_Clone_bool a) rfl rfl rfl rfl ?_ ?_ ?_ (fun _ => rfl) ?_ rfl ?_ ?_
  rotate_left 2
  · simp []; rfl
  · first | exact .inl rfl | (refine .inl ?_; simp []; done) | (refine .inr ?_; dsimp only; repeat' first | exact All2.nil | refine All2.cons ?_ ?_ | exact AvLe.refl _ rfl | refine AvLe.aggs ?_) <;> first | exact AvLe.refl _ rfl | exact AvLe.nil _ | exact AvLe.znil _ | exact AvLe.list' (by first | (simp [] <;> omega)) (by simp []; done) | exact AvLe.eq (by simp []; done) rfl
  · first | (simp [] <;> omega) | skip
  · simp
  · simp []; rfl
  refine regI_upto 2 (r := ?_) ?_ ?_ ?_
  rotate_left
  · simp [List.range, List.range.loop]; rfl
  · first | (simp [] <;> omega) | skip
  obtain ⟨f, b, h⟩ := obind h
  refine regI_call2 (s1 := ?_) (p := ?_) (con_slices_Clone_bool b) rfl rfl rfl rfl ?_ ?_ ?_ (fun _ => rfl) ?_ rfl ?_ ?_
  rotate_left 2
  · simp []; rfl
  · first | exact .inl rfl | (refine .inl ?_; simp []; done) | (refine .inr ?_; dsimp only; repeat' first | exact All2.nil | refine All2.cons ?_ ?_ | exact AvLe.refl _ rfl | refine AvLe.aggs ?_) <;> first | exact AvLe.refl _ rfl | exact AvLe.nil _ | exact AvLe.znil _ | exact AvLe.list' (by first | (simp [] <;> omega)) (by simp []; done) | exact AvLe.eq (by simp []; done) rfl
  · first | (simp [] <;> omega) | skip
  · simp
  · simp []; rfl
  refine regI_upto 2 (r := ?_) ?_ ?_ ?_
  rotate_left
  · simp [List.range, List.range.loop]; rfl
  · first | (simp [] <;> omega) | skip
  obtain ⟨g, d, h⟩ := obind h
  refine regI_call2 (s1 := ?_) (p := ?_) (con_slices_Clone_bool d) rfl rfl rfl rfl ?_ ?_ ?_ (fun _ => rfl) ?_ rfl ?_ ?_
  rotate_left 2
  · simp []; rfl
  · first | exact .inl rfl | (refine .inl ?_; simp []; done) | (refine .inr ?_; dsimp only; repeat' first | exact All2.nil | refine All2.cons ?_ ?_ | exact AvLe.refl _ rfl | refine AvLe.aggs ?_) <;> first | exact AvLe.refl _ rfl | exact AvLe.nil _ | exact AvLe.znil _ | exact AvLe.list' (by first | (simp [] <;> omega)) (by simp []; done) | exact AvLe.eq (by simp []; done) rfl
  · first | (simp [] <;> omega) | skip
  · simp
  · simp []; rfl
  refine regI_upto 1 (r := ?_) ?_ ?_ ?_
  rotate_left
  · simp [List.range, List.range.loop]; rfl
  · first | (simp [] <;> omega) | skip
  refine regI_bar (r := ?_) tt_ok rfl rfl rfl rfl ?_ ?_ ?_
  rotate_left
  · simp []; rfl
  · first | (simp [] <;> omega) | skip
  refine regI_nil ?_
  cases h
  refine Wp.ret (endQ_ret0 rfl ?_)
  repeat' first | exact All2.nil | refine All2.cons ?_ ?_ | refine AvLe.tups ?_ | refine AvLe.aggs ?_
  all_goals first
    | (exact AvLe.refl _ rfl)
    | (exact AvLe.nil _)
    | (exact AvLe.znil _)
    | (exact AvLe.ghost _ rfl)
    | (exact AvLe.zghost _ rfl)
    | (exact AvLe.sl' rfl (by simp []; done) (by simp []; done))
    | (exact AvLe.frz' rfl rfl rfl (by simp []; done) (by simp []; done) (by simp []; done))
    | (exact AvLe.list' (by simp []; done) (by simp []; done))
    | (exact AvLe.eq (by simp []; done) rfl)

theorem con_image_Set {n : Nat} {l0 : List Bool} {n_1 : Int} {v2 : Bool} {r : (List Bool) × Int} (h : image_Set n l0 n_1 v2 = some r) : Con Try.prog 40 [aL cB l0, .int .i64 n_1, .bool v2] (.tup [aL cB r.1, .int .i64 r.2]) [] := by
  refine con_of (T := TT0) tt_ok Try.func40 (c := _) (by unfold Try.f40; rfl) Try.ntmps40 (rs := [.tmp 6, .tmp 7]) (by rw [Try.results40]) (by unfold Try.f40; rfl) (by simp) ?_
  simp only [argsCh]
  dsimp only [image_Set] at h
  refine Wp.reg_seq (own := fun _ => false) tt_ok ?_
  iterate 2
    refine regv_pure (s1 := ?_) rfl rfl ?_ ?_ ?_
    rotate_left
    · simp []; rfl
    · first | (simp [] <;> omega) | skip
  refine regv_nil ?_
  refine Wp.seq ?_
  refine Wp.reg_seq (own := fun _ => false) tt_ok ?_
  iterate 2
    refine regv_pure (s1 := ?_) rfl rfl ?_ ?_ ?_
    rotate_left
    · simp []; rfl
    · first | (simp [] <;> omega) | skip
  obtain ⟨ac, aa, h⟩ := obind h
  refine regv_call2 (s' := ?_) (p := ?_) (con_image_is aa) rfl rfl rfl rfl ?_ ?_ ?_ ?_ ?_ ?_
  rotate_left 2
  · simp []; rfl
  · first | exact .inl rfl | (refine .inl ?_; simp []; done) | (refine .inr ?_; dsimp only; repeat' first | exact All2.nil | refine All2.cons ?_ ?_ | exact AvLe.refl _ rfl | refine AvLe.aggs ?_) <;> first | exact AvLe.refl _ rfl | exact AvLe.nil _ | exact AvLe.znil _ | exact AvLe.list' (by first | (simp [] <;> omega)) (by simp []; done) | exact AvLe.eq (by simp []; done) rfl
  · first | (simp [] <;> omega) | skip
  · simp
  · simp []; rfl
  iterate 1
    refine regv_pure (s1 := ?_) rfl rfl ?_ ?_ ?_
    rotate_left
    · simp []; rfl
    · first | (simp [] <;> omega) | skip
  refine regv_nil ?_
  cases a : (!ac)
  · rw [a, if_neg (by simp)] at h
    refine Wp.cond false (by first | (simp [a] <;> omega) | (have hq := a; simp at hq; simp [a, hq]; done)) (fun h0 => absurd h0 (by decide)) (fun _ => ?_)
    refine Wp.skip ?_
    show Wp _ _ _ _
    refine Wp.reg_seq (own := fun _ => false) tt_ok ?_
    iterate 2
      refine regv_pure (s1 := ?_) rfl rfl ?_ ?_ ?_
      rotate_left
      · simp [a]; rfl
      · first | (simp [a] <;> omega) | (have hq := a; simp at hq; simp [a, hq]; done) | skip
    obtain ⟨⟨d, e, b⟩, h⟩ := oguard h
    iterate 1
      refine regv_pure (s1 := ?_) rfl rfl ?_ ?_ ?_
      rotate_left
      · simp [a, d, e, b]; rfl
      · first | (simp [a, d, e, b] <;> omega) | (have hq := b; simp at hq; simp [a, d, e, b, hq]; done) | skip
    obtain ⟨ad, w, h⟩ := obind h
    have g := congrArg (List.map cB) (Option.some.inj w)
    have f := (congrArg List.length (Option.some.inj w)).symm
    try simp [a, d, e, b] at g
    try simp [a, d, e, b] at f
    clear w
    try simp only [g]
    iterate 1
      refine regv_pure (s1 := ?_) rfl rfl ?_ ?_ ?_
      rotate_left
      · simp [a, d, e, b, g, f]; rfl
      · first | (simp [a, d, e, b, g, f] <;> omega) | (have hq := f; simp at hq; simp [a, d, e, b, g, f, hq]; done) | skip
    refine regv_nil ?_
    refine Wp.reg_seq (own := fun _ => false) tt_ok ?_
    iterate 3
      refine regv_pure (s1 := ?_) rfl rfl ?_ ?_ ?_
      rotate_left
      · simp [a, d, e, b, g, f]; rfl
      · first | (simp [a, d, e, b, g, f] <;> omega) | (have hq := f; simp at hq; simp [a, d, e, b, g, f, hq]; done) | skip
    obtain ⟨ae, y, h⟩ := obind h
    have i := congrArg (List.map cB) (Option.some.inj y)
    have j := (congrArg List.length (Option.some.inj y)).symm
    try simp [a, d, e, b, g, f] at i
    try simp [a, d, e, b, g, f] at j
    clear y
    try simp only [i]
    refine regv_nil ?_
    refine Wp.reg_seq (own := fun _ => false) tt_ok ?_
    iterate 3
      refine regv_pure (s1 := ?_) rfl rfl ?_ ?_ ?_
      rotate_left
      · simp [a, d, e, b, g, f, i, j]; rfl
      · first | (simp [a, d, e, b, g, f, i, j] <;> omega) | (have hq := j; simp at hq; simp [a, d, e, b, g, f, i, j, hq]; done) | skip
    obtain ⟨af, ab, h⟩ := obind h
    obtain ⟨q, m, k⟩ := atI_some ab
    try simp [a, d, e, b, g, f, i, j] at m
    try simp only [Int.toNat_natCast, Int.reduceToNat, Nat.zero_add, Nat.add_zero] at k
    have o := getElem_of k
    iterate 2
      refine regv_pure (s1 := ?_) rfl rfl ?_ ?_ ?_
      rotate_left
      · simp [a, d, e, b, g, f, i, j, q, m, k, o]; rfl
      · first | (simp [a, d, e, b, g, f, i, j, q, m, k, o] <;> omega) | (have hq := o; simp at hq; simp [a, d, e, b, g, f, i, j, q, m, k, o, hq]; done) | skip
    obtain ⟨ag, z, h⟩ := obind h
    have u := congrArg (List.map cB) (Option.some.inj z)
    have v := (congrArg List.length (Option.some.inj z)).symm
    try simp [a, d, e, b, g, f, i, j, q, m, k, o] at u
    try simp [a, d, e, b, g, f, i, j, q, m, k, o] at v
    clear z
    try simp only [u]
    refine regv_nil ?_
    refine Wp.reg_seq (own := fun _ => false) tt_ok ?_
    iterate 3
      refine regv_pure (s1 := ?_) rfl rfl ?_ ?_ ?_
      rotate_left
      · simp [a, d, e, b, g, f, i, j, q, m, k, o, u, v]; rfl
      · first | (simp [a, d, e, b, g, f, i, j, q, m, k, o, u, v] <;> omega) | (have hq := v; simp at hq; simp [a, d, e, b, g, f, i, j, q, m, k, o, u, v, hq]; done) | skip
    refine regv_nil ?_
    cases h
    refine Wp.ret (endQ_ret0 rfl ?_)
    repeat' first | exact All2.nil | refine All2.cons ?_ ?_ | refine AvLe.tups ?_ | refine AvLe.aggs ?_
    all_goals first
      | (exact AvLe.refl _ rfl)
      | (exact AvLe.nil _)
      | (exact AvLe.znil _)
      | (exact AvLe.ghost _ rfl)
      | (exact AvLe.zghost _ rfl)
      | (exact AvLe.sl' rfl (by simp [a, d, e, b, g, f, i, j, q, m, k, o, u, v]; done) (by simp [a, d, e, b, g, f, i, j, q, m, k, o, u, v]; done))
      | (exact AvLe.frz' rfl rfl rfl (by simp [a, d, e, b, g, f, i, j, q, m, k, o, u, v]; done) (by simp [a, d, e, b, g, f, i, j, q, m, k, o, u, v]; done) (by simp [a, d, e, b, g, f, i, j, q, m, k, o, u, v]; done))
      | (exact AvLe.list' (by simp [a, d, e, b, g, f, i, j, q, m, k, o, u, v]; done) (by simp [a, d, e, b, g, f, i, j, q, m, k, o, u, v]; done))
      | (exact AvLe.eq (by simp [a, d, e, b, g, f, i, j, q, m, k, o, u, v]; done) rfl)
  · rw [a, if_pos rfl] at h
    refine Wp.cond true (by first | (simp [a] <;> omega) | (have hq := a; simp at hq; simp [a, hq]; done)) (fun _ => ?_) (fun h0 => absurd h0 (by decide))
    refine Wp.reg_seq (own := fun _ => false) tt_ok ?_
    iterate 2
      refine regv_pure (s1 := ?_) rfl rfl ?_ ?_ ?_
      rotate_left
      · simp [a]; rfl
      · first | (simp [a] <;> omega) | (have hq := a; simp at hq; simp [a, hq]; done) | skip
    refine regv_nil ?_
    cases h
    refine Wp.ret (endQ_ret0 rfl ?_)
    repeat' first | exact All2.nil | refine All2.cons ?_ ?_ | refine AvLe.tups ?_ | refine AvLe.aggs ?_
    all_goals first
      | (exact AvLe.refl _ rfl)
      | (exact AvLe.nil _)
      | (exact AvLe.znil _)
      | (exact AvLe.ghost _ rfl)
      | (exact AvLe.zghost _ rfl)
      | (exact AvLe.sl' rfl (by simp [a]; done) (by simp [a]; done))
      | (exact AvLe.frz' rfl rfl rfl (by simp [a]; done) (by simp [a]; done) (by simp [a]; done))
      | (exact AvLe.list' (by simp [a]; done) (by simp [a]; done))
      | (exact AvLe.eq (by simp [a]; done) rfl)

def state_Write_S1 (n : Nat) (e : ApiState) (g : List Bool) (f : Int) (i : List Bool) : St :=
  { ch := [(6, .hptr 0 0 0), (8, .hptr 1 0 0), (9, .int .i64 f)], hp := [.var [.nilsl, .nilsl, .nilsl], .var [aL cB g, aL cB i, aL cB e.E]], base := 0, n := 43, cond := True }

theorem con_state_Write {n : Nat} {st0 : ApiState} {a1 : ApiAddr} {v2 : Bool} {r : ApiState × Int} (h : state_Write n st0 a1 v2 = some r) : Con Try.prog 31 [.agg (cApiState st0), .agg (cApiAddr a1), .bool v2] (.tup [.agg (cApiState r.1), .int .i64 r.2]) [] := by
  refine con_of (T := TT0) tt_ok Try.func31 (c := _) (by unfold Try.f31; rfl) Try.ntmps31 (rs := [.cell 6 36, .tmp 7]) (by rw [Try.results31]) (by unfold Try.f31; rfl) (by simp) ?_
  simp only [argsCh]
  dsimp only [state_Write] at h
  refine Wp.reg_seq (own := fun _ => false) tt_ok ?_
  iterate 4
    refine regv_pure (s1 := ?_) rfl rfl ?_ ?_ ?_
    rotate_left
    · simp []; rfl
    · first | (simp [] <;> omega) | skip
  refine regv_nil ?_
  refine Wp.reg_seq (own := fun _ => false) tt_ok ?_
  iterate 1
    refine regv_pure (s1 := ?_) rfl rfl ?_ ?_ ?_
    rotate_left
    · simp []; rfl
    · first | (simp [] <;> omega) | skip
  obtain ⟨e, j, h⟩ := obind h
  refine regv_call2 (s' := ?_) (p := ?_) (con_state_Clone j) rfl rfl rfl rfl ?_ ?_ ?_ ?_ ?_ ?_
  rotate_left 2
  · simp []; rfl
  · first | exact .inl rfl | (refine .inl ?_; simp []; done) | (refine .inr ?_; dsimp only; repeat' first | exact All2.nil | refine All2.cons ?_ ?_ | exact AvLe.refl _ rfl | refine AvLe.aggs ?_) <;> first | exact AvLe.refl _ rfl | exact AvLe.nil _ | exact AvLe.znil _ | exact AvLe.list' (by first | (simp [] <;> omega)) (by simp []; done) | exact AvLe.eq (by simp []; done) rfl
  · first | (simp [] <;> omega) | skip
  · simp
  · simp []; rfl
  iterate 2
    refine regv_pure (s1 := ?_) rfl rfl ?_ ?_ ?_
    rotate_left
    · simp []; rfl
    · first | (simp [] <;> omega) | skip
  refine regv_nil ?_
  refine Wp.reg_seq (own := fun _ => false) tt_ok ?_
  iterate 1
    refine regv_pure (s1 := ?_) rfl rfl ?_ ?_ ?_
    rotate_left
    · simp []; rfl
    · first | (simp [] <;> omega) | skip
  refine regv_nil ?_
  refine Wp.join (α := (List Bool) × Int × (List Bool)) (fun x => state_Write_S1 n e x.1 x.2.1 x.2.2) (fun x => state_Write_J1 e x.1 x.2.1 x.2.2 = some r) ?_ ?_
  · clear h
    rintro ⟨g, f, i⟩ h
    simp only [state_Write_S1]
    dsimp only [state_Write_J1] at h
    refine Wp.seq ?_
    refine Wp.reg_seq (own := fun _ => false) tt_ok ?_
    iterate 2
      refine regv_pure (s1 := ?_) rfl rfl ?_ ?_ ?_
      rotate_left
      · simp []; rfl
      · first | (simp [] <;> omega) | skip
    refine regv_nil ?_
    cases d : (f != 0)
    · rw [d, if_neg (by simp)] at h
      refine Wp.cond false (by first | (simp [d] <;> omega) | (have hq := d; simp at hq; simp [d, hq]; done)) (fun h0 => absurd h0 (by decide)) (fun _ => ?_)
      refine Wp.skip ?_
      show Wp _ _ _ _
      refine Wp.reg_seq (own := fun _ => false) tt_ok ?_
      iterate 3
        refine regv_pure (s1 := ?_) rfl rfl ?_ ?_ ?_
        rotate_left
        · simp [d]; rfl
        · first | (simp [d] <;> omega) | (have hq := d; simp at hq; simp [d, hq]; done) | skip
      refine regv_nil ?_
      cases h
      refine Wp.ret (endQ_ret0 rfl ?_)
      repeat' first | exact All2.nil | refine All2.cons ?_ ?_ | refine AvLe.tups ?_ | refine AvLe.aggs ?_
      all_goals first
        | (exact AvLe.refl _ rfl)
        | (exact AvLe.nil _)
        | (exact AvLe.znil _)
        | (exact AvLe.ghost _ rfl)
        | (exact AvLe.zghost _ rfl)
        | (exact AvLe.sl' rfl (by simp [d]; done) (by simp [d]; done))
        | (exact AvLe.frz' rfl rfl rfl (by simp [d]; done) (by simp [d]; done) (by simp [d]; done))
        | (exact AvLe.list' (by simp [d]; done) (by simp [d]; done))
        | (exact AvLe.eq (by simp [d]; done) rfl)
    · rw [d, if_pos rfl] at h
      refine Wp.cond true (by first | (simp [d] <;> omega) | (have hq := d; simp at hq; simp [d, hq]; done)) (fun _ => ?_) (fun h0 => absurd h0 (by decide))
      refine Wp.reg_seq (own := fun _ => false) tt_ok ?_
      iterate 4
        refine regv_pure (s1 := ?_) rfl rfl ?_ ?_ ?_
        rotate_left
        · simp [d]; rfl
        · first | (simp [d] <;> omega) | (have hq := d; simp at hq; simp [d, hq]; done) | skip
      refine regv_nil ?_
      cases h
      refine Wp.ret (endQ_ret0 rfl ?_)
      repeat' first | exact All2.nil | refine All2.cons ?_ ?_ | refine AvLe.tups ?_ | refine AvLe.aggs ?_
      all_goals first
        | (exact AvLe.refl _ rfl)
        | (exact AvLe.nil _)
        | (exact AvLe.znil _)
        | (exact AvLe.ghost _ rfl)
        | (exact AvLe.zghost _ rfl)
        | (exact AvLe.sl' rfl (by simp [d]; done) (by simp [d]; done))
        | (exact AvLe.frz' rfl rfl rfl (by simp [d]; done) (by simp [d]; done) (by simp [d]; done))
        | (exact AvLe.list' (by simp [d]; done) (by simp [d]; done))
        | (exact AvLe.eq (by simp [d]; done) rfl)
  · skip
    refine Wp.reg_seq (own := fun _ => false) tt_ok ?_
    iterate 2
      refine regv_pure (s1 := ?_) rfl rfl ?_ ?_ ?_
      rotate_left
      · simp []; rfl
      · first | (simp [] <;> omega) | skip
    refine regv_nil ?_
    refine Wp.block ?_
    refine Wp.reg_seq (own := fun _ => false) tt_ok ?_
    iterate 2
      refine regv_pure (s1 := ?_) rfl rfl ?_ ?_ ?_
      rotate_left
      · simp []; rfl
      · first | (simp [] <;> omega) | skip
    refine regv_nil ?_
    cases a : (a1.Space == 1)
    · rw [a, if_neg (by simp)] at h
      refine Wp.cond false (by first | (simp [a] <;> omega) | (have hq := a; simp at hq; simp [a, hq]; done)) (fun h0 => absurd h0 (by decide)) (fun _ => ?_)
      refine Wp.reg_seq (own := fun _ => false) tt_ok ?_
      iterate 2
        refine regv_pure (s1 := ?_) rfl rfl ?_ ?_ ?_
        rotate_left
        · simp [a]; rfl
        · first | (simp [a] <;> omega) | (have hq := a; simp at hq; simp [a, hq]; done) | skip
      refine regv_nil ?_
      cases b : (a1.Space == 2)
      · rw [b, if_neg (by simp)] at h
        refine Wp.cond false (by first | (simp [a, b] <;> omega) | (have hq := b; simp at hq; simp [a, b, hq]; done)) (fun h0 => absurd h0 (by decide)) (fun _ => ?_)
        refine Wp.reg (own := fun _ => false) tt_ok ?_
        iterate 1
          refine regv_pure (s1 := ?_) rfl rfl ?_ ?_ ?_
          rotate_left
          · simp [a, b]; rfl
          · first | (simp [a, b] <;> omega) | (have hq := b; simp at hq; simp [a, b, hq]; done) | skip
        refine regv_nil ?_
        refine next_mk (e.Q, 8, e.M) h ?_
        refine Reloc.mk2 [some 2, some 3] rfl rfl rfl (by decide) ?_ ?_
        · repeat' first | exact objsLe_nil | refine objsLe_cons ?_ ?_
          all_goals first
            | exact trivial
            | (refine ObjLe.var' rfl rfl ?_ rfl
               repeat' first | exact All2.nil | refine All2.cons ?_ ?_
               all_goals first | (exact AvLe.refl _ rfl) | (exact AvLe.sl _ _ _ _ rfl) | (exact AvLe.hptr _ _ _ _ rfl) | (exact AvLe.mp _ _ rfl) | (exact AvLe.nil _) | (exact AvLe.znil _) | (exact AvLe.ghost _ rfl) | (exact AvLe.zghost _ rfl) | (exact AvLe.sl' rfl (by simp [a, b]; done) (by first | (simp [a, b] <;> omega) | omega)) | (exact AvLe.frz2 rfl (by simp) rfl (by simp [a, b]; done) (by simp [a, b]; done) (by simp [a, b]; done)) | (exact AvLe.list' (by simp [a, b]; done) (by simp [a, b]; done)) | (exact AvLe.eq (by simp [a, b]; done) rfl))
            | (exact ObjLe.map' rfl rfl)
            | (exact ObjLe.map2 rfl rfl (by first | (simp [a, b]; done) | (simp [a, b]; rfl)))
            | (exact ObjLe.slot' rfl)
            | (exact ObjLe.ghost' rfl (by decide))
            | (exact ObjLe.arr' rfl rfl (by first | (simp [a, b] <;> omega)) (fun _ _ => by first | rfl | (simp [a, b]; done)))
            | ((simp [a, b]; done))
        · repeat' first | exact chLe_nil | refine chLe_cons ?_ ?_ | exact AvLe.refl _ rfl | refine AvLe.aggs ?_ | exact All2.nil | refine All2.cons ?_ ?_
          all_goals first
            | (exact AvLe.refl _ rfl)
            | (exact AvLe.sl _ _ _ _ rfl)
            | (exact AvLe.hptr _ _ _ _ rfl)
            | (exact AvLe.mp _ _ rfl)
            | (exact AvLe.nil _)
            | (exact AvLe.znil _)
            | (exact AvLe.ghost _ rfl)
            | (exact AvLe.zghost _ rfl)
            | (exact AvLe.sl' rfl (by simp [a, b]; done) (by first | (simp [a, b] <;> omega) | omega))
            | (exact AvLe.frz2 rfl (by simp) rfl (by simp [a, b]; done) (by simp [a, b]; done) (by simp [a, b]; done))
            | (exact AvLe.list' (by simp [a, b]; done) (by simp [a, b]; done))
            | (exact AvLe.eq (by simp [a, b]; done) rfl)
      · rw [b, if_pos rfl] at h
        refine Wp.cond true (by first | (simp [a, b] <;> omega) | (have hq := b; simp at hq; simp [a, b, hq]; done)) (fun _ => ?_) (fun h0 => absurd h0 (by decide))
        refine Wp.reg (own := fun _ => false) tt_ok ?_
        iterate 5
          refine regv_pure (s1 := ?_) rfl rfl ?_ ?_ ?_
          rotate_left
          · simp [a, b]; rfl
          · first | (simp [a, b] <;> omega) | (have hq := b; simp at hq; simp [a, b, hq]; done) | skip
        obtain ⟨⟨o, q⟩, k, h⟩ := obind h
        dsimp only at h
        refine regv_call2 (s' := ?_) (p := ?_) (con_image_Set k) rfl rfl rfl rfl ?_ ?_ ?_ ?_ ?_ ?_
        rotate_left 2
        · simp [a, b]; rfl
        · first | exact .inl rfl | (refine .inl ?_; simp [a, b]; done) | (refine .inr ?_; dsimp only; repeat' first | exact All2.nil | refine All2.cons ?_ ?_ | exact AvLe.refl _ rfl | refine AvLe.aggs ?_) <;> first | exact AvLe.refl _ rfl | exact AvLe.nil _ | exact AvLe.znil _ | exact AvLe.list' (by first | (simp [a, b] <;> omega)) (by simp [a, b]; done) | exact AvLe.eq (by simp [a, b]; done) rfl
        · first | (simp [a, b] <;> omega) | (have hq := b; simp at hq; simp [a, b, hq]; done) | skip
        · simp
        · simp [a, b]; rfl
        iterate 6
          refine regv_pure (s1 := ?_) rfl rfl ?_ ?_ ?_
          rotate_left
          · simp [a, b]; rfl
          · first | (simp [a, b] <;> omega) | (have hq := b; simp at hq; simp [a, b, hq]; done) | skip
        refine regv_nil ?_
        refine next_mk (e.Q, q, o) h ?_
        refine Reloc.mk2 [some 2, some 3] rfl rfl rfl (by decide) ?_ ?_
        · repeat' first | exact objsLe_nil | refine objsLe_cons ?_ ?_
          all_goals first
            | exact trivial
            | (refine ObjLe.var' rfl rfl ?_ rfl
               repeat' first | exact All2.nil | refine All2.cons ?_ ?_
               all_goals first | (exact AvLe.refl _ rfl) | (exact AvLe.sl _ _ _ _ rfl) | (exact AvLe.hptr _ _ _ _ rfl) | (exact AvLe.mp _ _ rfl) | (exact AvLe.nil _) | (exact AvLe.znil _) | (exact AvLe.ghost _ rfl) | (exact AvLe.zghost _ rfl) | (exact AvLe.sl' rfl (by simp [a, b]; done) (by first | (simp [a, b] <;> omega) | omega)) | (exact AvLe.frz2 rfl (by simp) rfl (by simp [a, b]; done) (by simp [a, b]; done) (by simp [a, b]; done)) | (exact AvLe.list' (by simp [a, b]; done) (by simp [a, b]; done)) | (exact AvLe.eq (by simp [a, b]; done) rfl))
            | (exact ObjLe.map' rfl rfl)
            | (exact ObjLe.map2 rfl rfl (by first | (simp [a, b]; done) | (simp [a, b]; rfl)))
            | (exact ObjLe.slot' rfl)
            | (exact ObjLe.ghost' rfl (by decide))
            | (exact ObjLe.arr' rfl rfl (by first | (simp [a, b] <;> omega)) (fun _ _ => by first | rfl | (simp [a, b]; done)))
            | ((simp [a, b]; done))
        · repeat' first | exact chLe_nil | refine chLe_cons ?_ ?_ | exact AvLe.refl _ rfl | refine AvLe.aggs ?_ | exact All2.nil | refine All2.cons ?_ ?_
          all_goals first
            | (exact AvLe.refl _ rfl)
            | (exact AvLe.sl _ _ _ _ rfl)
            | (exact AvLe.hptr _ _ _ _ rfl)
            | (exact AvLe.mp _ _ rfl)
            | (exact AvLe.nil _)
            | (exact AvLe.znil _)
            | (exact AvLe.ghost _ rfl)
            | (exact AvLe.zghost _ rfl)
            | (exact AvLe.sl' rfl (by simp [a, b]; done) (by first | (simp [a, b] <;> omega) | omega))
            | (exact AvLe.frz2 rfl (by simp) rfl (by simp [a, b]; done) (by simp [a, b]; done) (by simp [a, b]; done))
            | (exact AvLe.list' (by simp [a, b]; done) (by simp [a, b]; done))
            | (exact AvLe.eq (by simp [a, b]; done) rfl)
    · rw [a, if_pos rfl] at h
      refine Wp.cond true (by first | (simp [a] <;> omega) | (have hq := a; simp at hq; simp [a, hq]; done)) (fun _ => ?_) (fun h0 => absurd h0 (by decide))
      refine Wp.reg (own := fun _ => false) tt_ok ?_
      iterate 5
        refine regv_pure (s1 := ?_) rfl rfl ?_ ?_ ?_
        rotate_left
        · simp [a]; rfl
        · first | (simp [a] <;> omega) | (have hq := a; simp at hq; simp [a, hq]; done) | skip
      obtain ⟨⟨u, v⟩, m, h⟩ := obind h
      dsimp only at h
      refine regv_call2 (s' := ?_) (p := ?_) (con_image_Set m) rfl rfl rfl rfl ?_ ?_ ?_ ?_ ?_ ?_
      rotate_left 2
      · simp [a]; rfl
      · first | exact .inl rfl | (refine .inl ?_; simp [a]; done) | (refine .inr ?_; dsimp only; repeat' first | exact All2.nil | refine All2.cons ?_ ?_ | exact AvLe.refl _ rfl | refine AvLe.aggs ?_) <;> first | exact AvLe.refl _ rfl | exact AvLe.nil _ | exact AvLe.znil _ | exact AvLe.list' (by first | (simp [a] <;> omega)) (by simp [a]; done) | exact AvLe.eq (by simp [a]; done) rfl
      · first | (simp [a] <;> omega) | (have hq := a; simp at hq; simp [a, hq]; done) | skip
      · simp
      · simp [a]; rfl
      iterate 6
        refine regv_pure (s1 := ?_) rfl rfl ?_ ?_ ?_
        rotate_left
        · simp [a]; rfl
        · first | (simp [a] <;> omega) | (have hq := a; simp at hq; simp [a, hq]; done) | skip
      refine regv_nil ?_
      refine next_mk (u, v, e.M) h ?_
      refine Reloc.mk2 [some 2, some 3] rfl rfl rfl (by decide) ?_ ?_
      · repeat' first | exact objsLe_nil | refine objsLe_cons ?_ ?_
        all_goals first
          | exact trivial
          | (refine ObjLe.var' rfl rfl ?_ rfl
             repeat' first | exact All2.nil | refine All2.cons ?_ ?_
             all_goals first | (exact AvLe.refl _ rfl) | (exact AvLe.sl _ _ _ _ rfl) | (exact AvLe.hptr _ _ _ _ rfl) | (exact AvLe.mp _ _ rfl) | (exact AvLe.nil _) | (exact AvLe.znil _) | (exact AvLe.ghost _ rfl) | (exact AvLe.zghost _ rfl) | (exact AvLe.sl' rfl (by simp [a]; done) (by first | (simp [a] <;> omega) | omega)) | (exact AvLe.frz2 rfl (by simp) rfl (by simp [a]; done) (by simp [a]; done) (by simp [a]; done)) | (exact AvLe.list' (by simp [a]; done) (by simp [a]; done)) | (exact AvLe.eq (by simp [a]; done) rfl))
          | (exact ObjLe.map' rfl rfl)
          | (exact ObjLe.map2 rfl rfl (by first | (simp [a]; done) | (simp [a]; rfl)))
          | (exact ObjLe.slot' rfl)
          | (exact ObjLe.ghost' rfl (by decide))
          | (exact ObjLe.arr' rfl rfl (by first | (simp [a] <;> omega)) (fun _ _ => by first | rfl | (simp [a]; done)))
          | ((simp [a]; done))
      · repeat' first | exact chLe_nil | refine chLe_cons ?_ ?_ | exact AvLe.refl _ rfl | refine AvLe.aggs ?_ | exact All2.nil | refine All2.cons ?_ ?_
        all_goals first
          | (exact AvLe.refl _ rfl)
          | (exact AvLe.sl _ _ _ _ rfl)
          | (exact AvLe.hptr _ _ _ _ rfl)
          | (exact AvLe.mp _ _ rfl)
          | (exact AvLe.nil _)
          | (exact AvLe.znil _)
          | (exact AvLe.ghost _ rfl)
          | (exact AvLe.zghost _ rfl)
          | (exact AvLe.sl' rfl (by simp [a]; done) (by first | (simp [a] <;> omega) | omega))
          | (exact AvLe.frz2 rfl (by simp) rfl (by simp [a]; done) (by simp [a]; done) (by simp [a]; done))
          | (exact AvLe.list' (by simp [a]; done) (by simp [a]; done))
          | (exact AvLe.eq (by simp [a]; done) rfl)

theorem con_rungeval_writes {n : Nat} {kind0 : Int} {on1 : Bool} {r : Bool × Bool} (h : rungeval_writes n kind0 on1 = some r) : Con Try.prog 30 [.int .i64 kind0, .bool on1] (.tup [.bool r.1, .bool r.2]) [] := by
  refine con_of (T := TT0) tt_ok Try.func30 (c := _) (by unfold Try.f30; rfl) Try.ntmps30 (rs := [.tmp 4, .tmp 5]) (by rw [Try.results30]) (by unfold Try.f30; rfl) (by simp) ?_
  simp only [argsCh]
  dsimp only [rungeval_writes] at h
  refine Wp.reg_seq (own := fun _ => false) tt_ok ?_
  iterate 2
    refine regv_pure (s1 := ?_) rfl rfl ?_ ?_ ?_
    rotate_left
    · simp []; rfl
    · first | (simp [] <;> omega) | skip
  refine regv_nil ?_
  refine Wp.reg_seq (own := fun _ => false) tt_ok ?_
  iterate 11
    refine regv_pure (s1 := ?_) rfl rfl ?_ ?_ ?_
    rotate_left
    · simp []; rfl
    · first | (simp [] <;> omega) | skip
  by_cases a : kind0 = 0
  · rw [if_pos a] at h
    iterate 3
      refine regv_pure (s1 := ?_) rfl rfl ?_ ?_ ?_
      rotate_left
      · simp [a]; rfl
      · first | (simp [a] <;> omega) | (have hq := a; simp at hq; simp [a, hq]; done) | skip
    refine regv_nil ?_
    refine Wp.drawn (own := fun _ => false) tt_ok mixed [0] (by decide +kernel) trivial ?_
    refine regI_upto 6 (r := ?_) ?_ ?_ ?_
    rotate_left
    · simp [List.range, List.range.loop, a]; rfl
    · first | (simp [a] <;> omega) | (have hq := a; simp at hq; simp [a, hq]; done) | skip
    refine regI_nil ?_
    cases h
    refine Wp.ret (endQ_ret0 rfl ?_)
    repeat' first | exact All2.nil | refine All2.cons ?_ ?_ | refine AvLe.tups ?_ | refine AvLe.aggs ?_
    all_goals first
      | (exact AvLe.refl _ rfl)
      | (exact AvLe.nil _)
      | (exact AvLe.znil _)
      | (exact AvLe.ghost _ rfl)
      | (exact AvLe.zghost _ rfl)
      | (exact AvLe.sl' rfl (by simp [a]; done) (by simp [a]; done))
      | (exact AvLe.frz' rfl rfl rfl (by simp [a]; done) (by simp [a]; done) (by simp [a]; done))
      | (exact AvLe.list' (by simp [a]; done) (by simp [a]; done))
      | (exact AvLe.eq (by simp [a]; done) rfl)
  · rw [if_neg a] at h
    by_cases b : kind0 = 1
    · rw [if_pos b] at h
      iterate 3
        refine regv_pure (s1 := ?_) rfl rfl ?_ ?_ ?_
        rotate_left
        · simp [a, b]; rfl
        · first | (simp [a, b] <;> omega) | (have hq := b; simp at hq; simp [a, b, hq]; done) | skip
      refine regv_nil ?_
      refine Wp.drawn (own := fun _ => false) tt_ok mixed [0] (by decide +kernel) trivial ?_
      refine regI_upto 6 (r := ?_) ?_ ?_ ?_
      rotate_left
      · simp [List.range, List.range.loop, a, b]; rfl
      · first | (simp [a, b] <;> omega) | (have hq := b; simp at hq; simp [a, b, hq]; done) | skip
      refine regI_nil ?_
      cases h
      refine Wp.ret (endQ_ret0 rfl ?_)
      repeat' first | exact All2.nil | refine All2.cons ?_ ?_ | refine AvLe.tups ?_ | refine AvLe.aggs ?_
      all_goals first
        | (exact AvLe.refl _ rfl)
        | (exact AvLe.nil _)
        | (exact AvLe.znil _)
        | (exact AvLe.ghost _ rfl)
        | (exact AvLe.zghost _ rfl)
        | (exact AvLe.sl' rfl (by simp [a, b]; done) (by simp [a, b]; done))
        | (exact AvLe.frz' rfl rfl rfl (by simp [a, b]; done) (by simp [a, b]; done) (by simp [a, b]; done))
        | (exact AvLe.list' (by simp [a, b]; done) (by simp [a, b]; done))
        | (exact AvLe.eq (by simp [a, b]; done) rfl)
    · rw [if_neg b] at h
      by_cases d : kind0 = 2
      · rw [if_pos d] at h
        iterate 3
          refine regv_pure (s1 := ?_) rfl rfl ?_ ?_ ?_
          rotate_left
          · simp [a, b, d]; rfl
          · first | (simp [a, b, d] <;> omega) | (have hq := d; simp at hq; simp [a, b, d, hq]; done) | skip
        refine regv_nil ?_
        refine Wp.drawn (own := fun _ => false) tt_ok mixed [0] (by decide +kernel) trivial ?_
        refine regI_upto 6 (r := ?_) ?_ ?_ ?_
        rotate_left
        · simp [List.range, List.range.loop, a, b, d]; rfl
        · first | (simp [a, b, d] <;> omega) | (have hq := d; simp at hq; simp [a, b, d, hq]; done) | skip
        refine regI_nil ?_
        cases h
        refine Wp.ret (endQ_ret0 rfl ?_)
        repeat' first | exact All2.nil | refine All2.cons ?_ ?_ | refine AvLe.tups ?_ | refine AvLe.aggs ?_
        all_goals first
          | (exact AvLe.refl _ rfl)
          | (exact AvLe.nil _)
          | (exact AvLe.znil _)
          | (exact AvLe.ghost _ rfl)
          | (exact AvLe.zghost _ rfl)
          | (exact AvLe.sl' rfl (by simp [a, b, d]; done) (by simp [a, b, d]; done))
          | (exact AvLe.frz' rfl rfl rfl (by simp [a, b, d]; done) (by simp [a, b, d]; done) (by simp [a, b, d]; done))
          | (exact AvLe.list' (by simp [a, b, d]; done) (by simp [a, b, d]; done))
          | (exact AvLe.eq (by simp [a, b, d]; done) rfl)
      · rw [if_neg d] at h
        by_cases e : kind0 = 3
        · rw [if_pos e] at h
          iterate 3
            refine regv_pure (s1 := ?_) rfl rfl ?_ ?_ ?_
            rotate_left
            · simp [a, b, d, e]; rfl
            · first | (simp [a, b, d, e] <;> omega) | (have hq := e; simp at hq; simp [a, b, d, e, hq]; done) | skip
          refine regv_nil ?_
          refine Wp.drawn (own := fun _ => false) tt_ok mixed [0] (by decide +kernel) trivial ?_
          refine regI_upto 6 (r := ?_) ?_ ?_ ?_
          rotate_left
          · simp [List.range, List.range.loop, a, b, d, e]; rfl
          · first | (simp [a, b, d, e] <;> omega) | (have hq := e; simp at hq; simp [a, b, d, e, hq]; done) | skip
          refine regI_nil ?_
          cases h
          refine Wp.ret (endQ_ret0 rfl ?_)
          repeat' first | exact All2.nil | refine All2.cons ?_ ?_ | refine AvLe.tups ?_ | refine AvLe.aggs ?_
          all_goals first
            | (exact AvLe.refl _ rfl)
            | (exact AvLe.nil _)
            | (exact AvLe.znil _)
            | (exact AvLe.ghost _ rfl)
            | (exact AvLe.zghost _ rfl)
            | (exact AvLe.sl' rfl (by simp [a, b, d, e]; done) (by simp [a, b, d, e]; done))
            | (exact AvLe.frz' rfl rfl rfl (by simp [a, b, d, e]; done) (by simp [a, b, d, e]; done) (by simp [a, b, d, e]; done))
            | (exact AvLe.list' (by simp [a, b, d, e]; done) (by simp [a, b, d, e]; done))
            | (exact AvLe.eq (by simp [a, b, d, e]; done) rfl)
        · rw [if_neg e] at h
          cases h

def rungeval_Coils_S1 (n : Nat) (r_0 : ApiRung) (on2 : Bool) (q : List Bool) (u : List Bool) (v : List Bool) (o : Int) : St :=
  { ch := [(2, .bool on2), (6, .hptr 0 0 0), (8, .hptr 1 0 0), (18, aL cApiCoil r_0.Coils), (19, .int .i64 (r_0.Coils.length : Int)), (20, .int .i64 o)], hp := [.var [.nilsl, .nilsl, .nilsl], .var [aL cB q, aL cB u, aL cB v]], base := 0, n := 56, cond := True }

theorem con_rungeval_Coils {n : Nat} {r_0 : ApiRung} {st1 : ApiState} {on2 : Bool} {r : ApiState × Int} (h : rungeval_Coils n r_0 st1 on2 = some r) : Con Try.prog 19 [.agg (cApiRung r_0), .agg (cApiState st1), .bool on2] (.tup [.agg (cApiState r.1), .int .i64 r.2]) [] := by
  refine con_of (T := TT0) tt_ok Try.func19 (c := _) (by unfold Try.f19; rfl) Try.ntmps19 (rs := [.cell 6 36, .tmp 7]) (by rw [Try.results19]) (by unfold Try.f19; rfl) (by simp) ?_
  simp only [argsCh]
  dsimp only [rungeval_Coils] at h
  refine Wp.reg_seq (own := fun _ => false) tt_ok ?_
  iterate 4
    refine regv_pure (s1 := ?_) rfl rfl ?_ ?_ ?_
    rotate_left
    · simp []; rfl
    · first | (simp [] <;> omega) | skip
  refine regv_nil ?_
  refine Wp.reg_seq (own := fun _ => false) tt_ok ?_
  iterate 1
    refine regv_pure (s1 := ?_) rfl rfl ?_ ?_ ?_
    rotate_left
    · simp []; rfl
    · first | (simp [] <;> omega) | skip
  obtain ⟨w, aa, h⟩ := obind h
  refine regv_call2 (s' := ?_) (p := ?_) (con_state_Clone aa) rfl rfl rfl rfl ?_ ?_ ?_ ?_ ?_ ?_
  rotate_left 2
  · simp []; rfl
  · first | exact .inl rfl | (refine .inl ?_; simp []; done) | (refine .inr ?_; dsimp only; repeat' first | exact All2.nil | refine All2.cons ?_ ?_ | exact AvLe.refl _ rfl | refine AvLe.aggs ?_) <;> first | exact AvLe.refl _ rfl | exact AvLe.nil _ | exact AvLe.znil _ | exact AvLe.list' (by first | (simp [] <;> omega)) (by simp []; done) | exact AvLe.eq (by simp []; done) rfl
  · first | (simp [] <;> omega) | skip
  · simp
  · simp []; rfl
  iterate 2
    refine regv_pure (s1 := ?_) rfl rfl ?_ ?_ ?_
    rotate_left
    · simp []; rfl
    · first | (simp [] <;> omega) | skip
  refine regv_nil ?_
  refine Wp.seq ?_
  refine Wp.reg_seq (own := fun _ => false) tt_ok ?_
  iterate 4
    refine regv_pure (s1 := ?_) rfl rfl ?_ ?_ ?_
    rotate_left
    · simp []; rfl
    · first | (simp [] <;> omega) | skip
  refine regv_nil ?_
  refine Wp.block ?_
  refine Wp.loopF (α := (List Bool) × (List Bool) × (List Bool) × Int) (fun x => rungeval_Coils_S1 n r_0 on2 x.1 x.2.1 x.2.2.1 x.2.2.2) (fun m x => rungeval_Coils_L1 n r_0 on2 m x.1 x.2.1 x.2.2.1 x.2.2.2 = some r) (fun _ h => by cases h) ?_ n (w.Q, w.M, w.E, 0) h ?_
  rotate_left
  · simp only [rungeval_Coils_S1]
    refine Reloc.mk2 [some 2, some 3] rfl rfl rfl (by decide) ?_ ?_
    · repeat' first | exact objsLe_nil | refine objsLe_cons ?_ ?_
      all_goals first
        | exact trivial
        | (refine ObjLe.var' rfl rfl ?_ rfl
           repeat' first | exact All2.nil | refine All2.cons ?_ ?_
           all_goals first | (exact AvLe.refl _ rfl) | (exact AvLe.sl _ _ _ _ rfl) | (exact AvLe.hptr _ _ _ _ rfl) | (exact AvLe.mp _ _ rfl) | (exact AvLe.nil _) | (exact AvLe.znil _) | (exact AvLe.ghost _ rfl) | (exact AvLe.zghost _ rfl) | (exact AvLe.sl' rfl (by simp []; done) (by first | (simp [] <;> omega) | omega)) | (exact AvLe.frz2 rfl (by simp) rfl (by simp []; done) (by simp []; done) (by simp []; done)) | (exact AvLe.list' (by simp []; done) (by simp []; done)) | (exact AvLe.eq (by simp []; done) rfl))
        | (exact ObjLe.map' rfl rfl)
        | (exact ObjLe.map2 rfl rfl (by first | (simp []; done) | (simp []; rfl)))
        | (exact ObjLe.slot' rfl)
        | (exact ObjLe.ghost' rfl (by decide))
        | (exact ObjLe.arr' rfl rfl (by first | (simp [] <;> omega)) (fun _ _ => by first | rfl | (simp []; done)))
        | ((simp []; done))
    · repeat' first | exact chLe_nil | refine chLe_cons ?_ ?_ | exact AvLe.refl _ rfl | refine AvLe.aggs ?_ | exact All2.nil | refine All2.cons ?_ ?_
      all_goals first
        | (exact AvLe.refl _ rfl)
        | (exact AvLe.sl _ _ _ _ rfl)
        | (exact AvLe.hptr _ _ _ _ rfl)
        | (exact AvLe.mp _ _ rfl)
        | (exact AvLe.nil _)
        | (exact AvLe.znil _)
        | (exact AvLe.ghost _ rfl)
        | (exact AvLe.zghost _ rfl)
        | (exact AvLe.sl' rfl (by simp []; done) (by first | (simp [] <;> omega) | omega))
        | (exact AvLe.frz2 rfl (by simp) rfl (by simp []; done) (by simp []; done) (by simp []; done))
        | (exact AvLe.list' (by simp []; done) (by simp []; done))
        | (exact AvLe.eq (by simp []; done) rfl)
  rintro rec_n1 ⟨q, u, v, o⟩ h
  simp only [rungeval_Coils_S1]
  dsimp only [rungeval_Coils_L1] at h
  refine Wp.reg_seq (own := fun _ => false) tt_ok ?_
  iterate 1
    refine regv_pure (s1 := ?_) rfl rfl ?_ ?_ ?_
    rotate_left
    · simp []; rfl
    · first | (simp [] <;> omega) | skip
  refine regv_nil ?_
  refine Wp.seq ?_
  refine (Decidable.em (o < (r_0.Coils.length : Int))).symm.elim (fun f => ?_) (fun f => ?_)
  · rw [if_neg (by simpa using f)] at h
    refine Wp.cond false (by first | (simp [f] <;> omega) | (have hq := f; simp at hq; simp [f, hq]; done)) (fun h0 => absurd h0 (by decide)) (fun _ => ?_)
    refine Wp.exit ?_
    show Wp _ _ _ _
    refine Wp.reg_seq (own := fun _ => false) tt_ok ?_
    iterate 3
      refine regv_pure (s1 := ?_) rfl rfl ?_ ?_ ?_
      rotate_left
      · simp [f]; rfl
      · first | (simp [f] <;> omega) | (have hq := f; simp at hq; simp [f, hq]; done) | skip
    refine regv_nil ?_
    cases h
    refine Wp.ret (endQ_ret0 rfl ?_)
    repeat' first | exact All2.nil | refine All2.cons ?_ ?_ | refine AvLe.tups ?_ | refine AvLe.aggs ?_
    all_goals first
      | (exact AvLe.refl _ rfl)
      | (exact AvLe.nil _)
      | (exact AvLe.znil _)
      | (exact AvLe.ghost _ rfl)
      | (exact AvLe.zghost _ rfl)
      | (exact AvLe.sl' rfl (by simp [f]; done) (by simp [f]; done))
      | (exact AvLe.frz' rfl rfl rfl (by simp [f]; done) (by simp [f]; done) (by simp [f]; done))
      | (exact AvLe.list' (by simp [f]; done) (by simp [f]; done))
      | (exact AvLe.eq (by simp [f]; done) rfl)
  · rw [if_pos (decide_eq_true f)] at h
    refine Wp.cond true (by first | (simp [f] <;> omega) | (have hq := f; simp at hq; simp [f, hq]; done)) (fun _ => ?_) (fun h0 => absurd h0 (by decide))
    refine Wp.skip ?_
    show Wp _ _ _ _
    refine Wp.seq ?_
    refine Wp.block ?_
    refine Wp.reg_seq (own := fun _ => false) tt_ok ?_
    obtain ⟨z, ab, h⟩ := obind h
    obtain ⟨e, d, a⟩ := atI_some ab
    try simp [f] at d
    try simp only [Int.toNat_natCast, Int.reduceToNat, Nat.zero_add, Nat.add_zero] at a
    have b := getElem_of a
    iterate 4
      refine regv_pure (s1 := ?_) rfl rfl ?_ ?_ ?_
      rotate_left
      · simp [f, e, d, a, b]; rfl
      · first | (simp [f, e, d, a, b] <;> omega) | (have hq := b; simp at hq; simp [f, e, d, a, b, hq]; done) | skip
    refine regv_nil ?_
    refine Wp.seq ?_
    refine Wp.reg_seq (own := fun _ => false) tt_ok ?_
    iterate 4
      refine regv_pure (s1 := ?_) rfl rfl ?_ ?_ ?_
      rotate_left
      · simp [f, e, d, a, b]; rfl
      · first | (simp [f, e, d, a, b] <;> omega) | (have hq := b; simp at hq; simp [f, e, d, a, b, hq]; done) | skip
    refine (Decidable.em (z.Kind < 0)).symm.elim (fun g => ?_) (fun g => ?_)
    · rw [if_neg (by simpa using g)] at h
      refine regv_pure (s1 := ?_) rfl ?_ ?_ ?_ ?_
      rotate_left
      · simp [f, e, d, a, b, g]; done
      · simp [f, e, d, a, b, g]; rfl
      · first | (simp [f, e, d, a, b, g] <;> omega) | (have hq := g; simp at hq; simp [f, e, d, a, b, g, hq]; done) | skip
      refine regv_pure (s1 := ?_) rfl ?_ ?_ ?_ ?_
      rotate_left
      · simp [f, e, d, a, b, g]; done
      · simp [f, e, d, a, b, g]; rfl
      · first | (simp [f, e, d, a, b, g] <;> omega) | (have hq := g; simp at hq; simp [f, e, d, a, b, g, hq]; done) | skip
      refine regv_pure (s1 := ?_) rfl ?_ ?_ ?_ ?_
      rotate_left
      · simp [f, e, d, a, b, g]; done
      · simp [f, e, d, a, b, g]; rfl
      · first | (simp [f, e, d, a, b, g] <;> omega) | (have hq := g; simp at hq; simp [f, e, d, a, b, g, hq]; done) | skip
      iterate 1
        refine regv_pure (s1 := ?_) rfl rfl ?_ ?_ ?_
        rotate_left
        · simp [f, e, d, a, b, g]; rfl
        · first | (simp [f, e, d, a, b, g] <;> omega) | (have hq := g; simp at hq; simp [f, e, d, a, b, g, hq]; done) | skip
      refine regv_nil ?_
      refine (Decidable.em (z.Kind ≥ 4)).symm.elim (fun i => ?_) (fun i => ?_)
      · rw [if_neg (by simpa using i)] at h
        refine Wp.cond false (by first | (simp [f, e, d, a, b, g, i] <;> omega) | (have hq := i; simp at hq; simp [f, e, d, a, b, g, i, hq]; done)) (fun h0 => absurd h0 (by decide)) (fun _ => ?_)
        refine Wp.skip ?_
        show Wp _ _ _ _
        refine Wp.reg_seq (own := fun _ => false) tt_ok ?_
        iterate 3
          refine regv_pure (s1 := ?_) rfl rfl ?_ ?_ ?_
          rotate_left
          · simp [f, e, d, a, b, g, i]; rfl
          · first | (simp [f, e, d, a, b, g, i] <;> omega) | (have hq := i; simp at hq; simp [f, e, d, a, b, g, i, hq]; done) | skip
        obtain ⟨⟨ag, ae⟩, ac, h⟩ := obind h
        dsimp only at h
        refine regv_call2 (s' := ?_) (p := ?_) (con_rungeval_writes ac) rfl rfl rfl rfl ?_ ?_ ?_ ?_ ?_ ?_
        rotate_left 2
        · simp [f, e, d, a, b, g, i]; rfl
        · first | exact .inl rfl | (refine .inl ?_; simp [f, e, d, a, b, g, i]; done) | (refine .inr ?_; dsimp only; repeat' first | exact All2.nil | refine All2.cons ?_ ?_ | exact AvLe.refl _ rfl | refine AvLe.aggs ?_) <;> first | exact AvLe.refl _ rfl | exact AvLe.nil _ | exact AvLe.znil _ | exact AvLe.list' (by first | (simp [f, e, d, a, b, g, i] <;> omega)) (by simp [f, e, d, a, b, g, i]; done) | exact AvLe.eq (by simp [f, e, d, a, b, g, i]; done) rfl
        · first | (simp [f, e, d, a, b, g, i] <;> omega) | (have hq := i; simp at hq; simp [f, e, d, a, b, g, i, hq]; done) | skip
        · simp
        · simp [f, e, d, a, b, g, i]; rfl
        iterate 5
          refine regv_pure (s1 := ?_) rfl rfl ?_ ?_ ?_
          rotate_left
          · simp [f, e, d, a, b, g, i]; rfl
          · first | (simp [f, e, d, a, b, g, i] <;> omega) | (have hq := i; simp at hq; simp [f, e, d, a, b, g, i, hq]; done) | skip
        refine regv_nil ?_
        refine Wp.reg_seq (own := fun _ => false) tt_ok ?_
        iterate 4
          refine regv_pure (s1 := ?_) rfl rfl ?_ ?_ ?_
          rotate_left
          · simp [f, e, d, a, b, g, i]; rfl
          · first | (simp [f, e, d, a, b, g, i] <;> omega) | (have hq := i; simp at hq; simp [f, e, d, a, b, g, i, hq]; done) | skip
        obtain ⟨⟨y, af⟩, ad, h⟩ := obind h
        dsimp only at h
        refine regv_call2 (s' := ?_) (p := ?_) (con_state_Write ad) rfl rfl rfl rfl ?_ ?_ ?_ ?_ ?_ ?_
        rotate_left 2
        · simp [f, e, d, a, b, g, i]; rfl
        · first | exact .inl rfl | (refine .inl ?_; simp [f, e, d, a, b, g, i]; done) | (refine .inr ?_; dsimp only; repeat' first | exact All2.nil | refine All2.cons ?_ ?_ | exact AvLe.refl _ rfl | refine AvLe.aggs ?_) <;> first | exact AvLe.refl _ rfl | exact AvLe.nil _ | exact AvLe.znil _ | exact AvLe.list' (by first | (simp [f, e, d, a, b, g, i] <;> omega)) (by simp [f, e, d, a, b, g, i]; done) | exact AvLe.eq (by simp [f, e, d, a, b, g, i]; done) rfl
        · first | (simp [f, e, d, a, b, g, i] <;> omega) | (have hq := i; simp at hq; simp [f, e, d, a, b, g, i, hq]; done) | skip
        · simp
        · simp [f, e, d, a, b, g, i]; rfl
        iterate 6
          refine regv_pure (s1 := ?_) rfl rfl ?_ ?_ ?_
          rotate_left
          · simp [f, e, d, a, b, g, i]; rfl
          · first | (simp [f, e, d, a, b, g, i] <;> omega) | (have hq := i; simp at hq; simp [f, e, d, a, b, g, i, hq]; done) | skip
        refine regv_nil ?_
        refine Wp.seq ?_
        refine Wp.reg_seq (own := fun _ => false) tt_ok ?_
        iterate 2
          refine regv_pure (s1 := ?_) rfl rfl ?_ ?_ ?_
          rotate_left
          · simp [f, e, d, a, b, g, i]; rfl
          · first | (simp [f, e, d, a, b, g, i] <;> omega) | (have hq := i; simp at hq; simp [f, e, d, a, b, g, i, hq]; done) | skip
        refine regv_nil ?_
        cases j : (af != 0)
        · rw [j, if_neg (by simp)] at h
          refine Wp.cond false (by first | (simp [f, e, d, a, b, g, i, j] <;> omega) | (have hq := j; simp at hq; simp [f, e, d, a, b, g, i, j, hq]; done)) (fun h0 => absurd h0 (by decide)) (fun _ => ?_)
          refine Wp.skip ?_
          show Wp _ _ _ _
          refine Wp.reg_seq (own := fun _ => false) tt_ok ?_
          iterate 1
            refine regv_pure (s1 := ?_) rfl rfl ?_ ?_ ?_
            rotate_left
            · simp [f, e, d, a, b, g, i, j]; rfl
            · first | (simp [f, e, d, a, b, g, i, j] <;> omega) | (have hq := j; simp at hq; simp [f, e, d, a, b, g, i, j, hq]; done) | skip
          refine regv_nil ?_
          refine (Bool.eq_false_or_eq_true ae).symm.elim (fun k => ?_) (fun k => ?_)
          · rw [if_neg (by rw [k]; simp)] at h
            refine Wp.cond false (by first | (simp [f, e, d, a, b, g, i, j, k] <;> omega) | (have hq := k; simp at hq; simp [f, e, d, a, b, g, i, j, k, hq]; done)) (fun h0 => absurd h0 (by decide)) (fun _ => ?_)
            refine Wp.skip ?_
            show Wp _ _ _ _
            refine Wp.reg (own := fun _ => false) tt_ok ?_
            iterate 2
              refine regv_pure (s1 := ?_) rfl rfl ?_ ?_ ?_
              rotate_left
              · simp [f, e, d, a, b, g, i, j, k]; rfl
              · first | (simp [f, e, d, a, b, g, i, j, k] <;> omega) | (have hq := k; simp at hq; simp [f, e, d, a, b, g, i, j, k, hq]; done) | skip
            refine regv_nil ?_
            refine next_mk (q, u, v, (IntKind.i64.wrap (o + 1))) h ?_
            refine Reloc.mk2 [some 0, some 1] rfl rfl rfl (by decide) ?_ ?_
            · repeat' first | exact objsLe_nil | refine objsLe_cons ?_ ?_
              all_goals first
                | exact trivial
                | (refine ObjLe.var' rfl rfl ?_ rfl
                   repeat' first | exact All2.nil | refine All2.cons ?_ ?_
                   all_goals first | (exact AvLe.refl _ rfl) | (exact AvLe.sl _ _ _ _ rfl) | (exact AvLe.hptr _ _ _ _ rfl) | (exact AvLe.mp _ _ rfl) | (exact AvLe.nil _) | (exact AvLe.znil _) | (exact AvLe.ghost _ rfl) | (exact AvLe.zghost _ rfl) | (exact AvLe.sl' rfl (by simp [f, e, d, a, b, g, i, j, k]; done) (by first | (simp [f, e, d, a, b, g, i, j, k] <;> omega) | omega)) | (exact AvLe.frz2 rfl (by simp) rfl (by simp [f, e, d, a, b, g, i, j, k]; done) (by simp [f, e, d, a, b, g, i, j, k]; done) (by simp [f, e, d, a, b, g, i, j, k]; done)) | (exact AvLe.list' (by simp [f, e, d, a, b, g, i, j, k]; done) (by simp [f, e, d, a, b, g, i, j, k]; done)) | (exact AvLe.eq (by simp [f, e, d, a, b, g, i, j, k]; done) rfl))
                | (exact ObjLe.map' rfl rfl)
                | (exact ObjLe.map2 rfl rfl (by first | (simp [f, e, d, a, b, g, i, j, k]; done) | (simp [f, e, d, a, b, g, i, j, k]; rfl)))
                | (exact ObjLe.slot' rfl)
                | (exact ObjLe.ghost' rfl (by decide))
                | (exact ObjLe.arr' rfl rfl (by first | (simp [f, e, d, a, b, g, i, j, k] <;> omega)) (fun _ _ => by first | rfl | (simp [f, e, d, a, b, g, i, j, k]; done)))
                | ((simp [f, e, d, a, b, g, i, j, k]; done))
            · repeat' first | exact chLe_nil | refine chLe_cons ?_ ?_ | exact AvLe.refl _ rfl | refine AvLe.aggs ?_ | exact All2.nil | refine All2.cons ?_ ?_
              all_goals first
                | (exact AvLe.refl _ rfl)
                | (exact AvLe.sl _ _ _ _ rfl)
                | (exact AvLe.hptr _ _ _ _ rfl)
                | (exact AvLe.mp _ _ rfl)
                | (exact AvLe.nil _)
                | (exact AvLe.znil _)
                | (exact AvLe.ghost _ rfl)
                | (exact AvLe.zghost _ rfl)
                | (exact AvLe.sl' rfl (by simp [f, e, d, a, b, g, i, j, k]; done) (by first | (simp [f, e, d, a, b, g, i, j, k] <;> omega) | omega))
                | (exact AvLe.frz2 rfl (by simp) rfl (by simp [f, e, d, a, b, g, i, j, k]; done) (by simp [f, e, d, a, b, g, i, j, k]; done) (by simp [f, e, d, a, b, g, i, j, k]; done))
                | (exact AvLe.list' (by simp [f, e, d, a, b, g, i, j, k]; done) (by simp [f, e, d, a, b, g, i, j, k]; done))
                | (exact AvLe.eq (by simp [f, e, d, a, b, g, i, j, k]; done) rfl)
          · rw [if_pos k] at h
            refine Wp.cond true (by first | (simp [f, e, d, a, b, g, i, j, k] <;> omega) | (have hq := k; simp at hq; simp [f, e, d, a, b, g, i, j, k, hq]; done)) (fun _ => ?_) (fun h0 => absurd h0 (by decide))
            refine Wp.reg (own := fun _ => false) tt_ok ?_
            iterate 2
              refine regv_pure (s1 := ?_) rfl rfl ?_ ?_ ?_
              rotate_left
              · simp [f, e, d, a, b, g, i, j, k]; rfl
              · first | (simp [f, e, d, a, b, g, i, j, k] <;> omega) | (have hq := k; simp at hq; simp [f, e, d, a, b, g, i, j, k, hq]; done) | skip
            refine regv_nil ?_
            show Wp _ _ _ _
            refine Wp.reg (own := fun _ => false) tt_ok ?_
            iterate 2
              refine regv_pure (s1 := ?_) rfl rfl ?_ ?_ ?_
              rotate_left
              · simp [f, e, d, a, b, g, i, j, k]; rfl
              · first | (simp [f, e, d, a, b, g, i, j, k] <;> omega) | (have hq := k; simp at hq; simp [f, e, d, a, b, g, i, j, k, hq]; done) | skip
            refine regv_nil ?_
            refine next_mk (y.Q, y.M, y.E, (IntKind.i64.wrap (o + 1))) h ?_
            refine Reloc.mk2 [some 0, some 1] rfl rfl rfl (by decide) ?_ ?_
            · repeat' first | exact objsLe_nil | refine objsLe_cons ?_ ?_
              all_goals first
                | exact trivial
                | (refine ObjLe.var' rfl rfl ?_ rfl
                   repeat' first | exact All2.nil | refine All2.cons ?_ ?_
                   all_goals first | (exact AvLe.refl _ rfl) | (exact AvLe.sl _ _ _ _ rfl) | (exact AvLe.hptr _ _ _ _ rfl) | (exact AvLe.mp _ _ rfl) | (exact AvLe.nil _) | (exact AvLe.znil _) | (exact AvLe.ghost _ rfl) | (exact AvLe.zghost _ rfl) | (exact AvLe.sl' rfl (by simp [f, e, d, a, b, g, i, j, k]; done) (by first | (simp [f, e, d, a, b, g, i, j, k] <;> omega) | omega)) | (exact AvLe.frz2 rfl (by simp) rfl (by simp [f, e, d, a, b, g, i, j, k]; done) (by simp [f, e, d, a, b, g, i, j, k]; done) (by simp [f, e, d, a, b, g, i, j, k]; done)) | (exact AvLe.list' (by simp [f, e, d, a, b, g, i, j, k]; done) (by simp [f, e, d, a, b, g, i, j, k]; done)) | (exact AvLe.eq (by simp [f, e, d, a, b, g, i, j, k]; done) rfl))
                | (exact ObjLe.map' rfl rfl)
                | (exact ObjLe.map2 rfl rfl (by first | (simp [f, e, d, a, b, g, i, j, k]; done) | (simp [f, e, d, a, b, g, i, j, k]; rfl)))
                | (exact ObjLe.slot' rfl)
                | (exact ObjLe.ghost' rfl (by decide))
                | (exact ObjLe.arr' rfl rfl (by first | (simp [f, e, d, a, b, g, i, j, k] <;> omega)) (fun _ _ => by first | rfl | (simp [f, e, d, a, b, g, i, j, k]; done)))
                | ((simp [f, e, d, a, b, g, i, j, k]; done))
            · repeat' first | exact chLe_nil | refine chLe_cons ?_ ?_ | exact AvLe.refl _ rfl | refine AvLe.aggs ?_ | exact All2.nil | refine All2.cons ?_ ?_
              all_goals first
                | (exact AvLe.refl _ rfl)
                | (exact AvLe.sl _ _ _ _ rfl)
                | (exact AvLe.hptr _ _ _ _ rfl)
                | (exact AvLe.mp _ _ rfl)
                | (exact AvLe.nil _)
                | (exact AvLe.znil _)
                | (exact AvLe.ghost _ rfl)
                | (exact AvLe.zghost _ rfl)
                | (exact AvLe.sl' rfl (by simp [f, e, d, a, b, g, i, j, k]; done) (by first | (simp [f, e, d, a, b, g, i, j, k] <;> omega) | omega))
                | (exact AvLe.frz2 rfl (by simp) rfl (by simp [f, e, d, a, b, g, i, j, k]; done) (by simp [f, e, d, a, b, g, i, j, k]; done) (by simp [f, e, d, a, b, g, i, j, k]; done))
                | (exact AvLe.list' (by simp [f, e, d, a, b, g, i, j, k]; done) (by simp [f, e, d, a, b, g, i, j, k]; done))
                | (exact AvLe.eq (by simp [f, e, d, a, b, g, i, j, k]; done) rfl)
        · rw [j, if_pos rfl] at h
          refine Wp.cond true (by first | (simp [f, e, d, a, b, g, i, j] <;> omega) | (have hq := j; simp at hq; simp [f, e, d, a, b, g, i, j, hq]; done)) (fun _ => ?_) (fun h0 => absurd h0 (by decide))
          refine Wp.reg_seq (own := fun _ => false) tt_ok ?_
          iterate 4
            refine regv_pure (s1 := ?_) rfl rfl ?_ ?_ ?_
            rotate_left
            · simp [f, e, d, a, b, g, i, j]; rfl
            · first | (simp [f, e, d, a, b, g, i, j] <;> omega) | (have hq := j; simp at hq; simp [f, e, d, a, b, g, i, j, hq]; done) | skip
          refine regv_nil ?_
          cases h
          refine Wp.ret (endQ_ret0 rfl ?_)
          repeat' first | exact All2.nil | refine All2.cons ?_ ?_ | refine AvLe.tups ?_ | refine AvLe.aggs ?_
          all_goals first
            | (exact AvLe.refl _ rfl)
            | (exact AvLe.nil _)
            | (exact AvLe.znil _)
            | (exact AvLe.ghost _ rfl)
            | (exact AvLe.zghost _ rfl)
            | (exact AvLe.sl' rfl (by simp [f, e, d, a, b, g, i, j]; done) (by simp [f, e, d, a, b, g, i, j]; done))
            | (exact AvLe.frz' rfl rfl rfl (by simp [f, e, d, a, b, g, i, j]; done) (by simp [f, e, d, a, b, g, i, j]; done) (by simp [f, e, d, a, b, g, i, j]; done))
            | (exact AvLe.list' (by simp [f, e, d, a, b, g, i, j]; done) (by simp [f, e, d, a, b, g, i, j]; done))
            | (exact AvLe.eq (by simp [f, e, d, a, b, g, i, j]; done) rfl)
      · rw [if_pos (decide_eq_true i)] at h
        refine Wp.cond true (by first | (simp [f, e, d, a, b, g, i] <;> omega) | (have hq := i; simp at hq; simp [f, e, d, a, b, g, i, hq]; done)) (fun _ => ?_) (fun h0 => absurd h0 (by decide))
        refine Wp.reg_seq (own := fun _ => false) tt_ok ?_
        iterate 3
          refine regv_pure (s1 := ?_) rfl rfl ?_ ?_ ?_
          rotate_left
          · simp [f, e, d, a, b, g, i]; rfl
          · first | (simp [f, e, d, a, b, g, i] <;> omega) | (have hq := i; simp at hq; simp [f, e, d, a, b, g, i, hq]; done) | skip
        refine regv_nil ?_
        cases h
        refine Wp.ret (endQ_ret0 rfl ?_)
        repeat' first | exact All2.nil | refine All2.cons ?_ ?_ | refine AvLe.tups ?_ | refine AvLe.aggs ?_
        all_goals first
          | (exact AvLe.refl _ rfl)
          | (exact AvLe.nil _)
          | (exact AvLe.znil _)
          | (exact AvLe.ghost _ rfl)
          | (exact AvLe.zghost _ rfl)
          | (exact AvLe.sl' rfl (by simp [f, e, d, a, b, g, i]; done) (by simp [f, e, d, a, b, g, i]; done))
          | (exact AvLe.frz' rfl rfl rfl (by simp [f, e, d, a, b, g, i]; done) (by simp [f, e, d, a, b, g, i]; done) (by simp [f, e, d, a, b, g, i]; done))
          | (exact AvLe.list' (by simp [f, e, d, a, b, g, i]; done) (by simp [f, e, d, a, b, g, i]; done))
          | (exact AvLe.eq (by simp [f, e, d, a, b, g, i]; done) rfl)
    · rw [if_pos (decide_eq_true g)] at h
      refine regv_skip (s1 := ?_) ?_ ?_ ?_
      rotate_left
      · simp [f, e, d, a, b, g]; done
      · simp [f, e, d, a, b, g]; rfl
      refine regv_skip (s1 := ?_) ?_ ?_ ?_
      rotate_left
      · simp [f, e, d, a, b, g]; done
      · simp [f, e, d, a, b, g]; rfl
      refine regv_skip (s1 := ?_) ?_ ?_ ?_
      rotate_left
      · simp [f, e, d, a, b, g]; done
      · simp [f, e, d, a, b, g]; rfl
      iterate 1
        refine regv_pure (s1 := ?_) rfl rfl ?_ ?_ ?_
        rotate_left
        · simp [f, e, d, a, b, g]; rfl
        · first | (simp [f, e, d, a, b, g] <;> omega) | (have hq := g; simp at hq; simp [f, e, d, a, b, g, hq]; done) | skip
      refine regv_nil ?_
      refine Wp.cond true (by first | (simp [f, e, d, a, b, g] <;> omega) | (have hq := g; simp at hq; simp [f, e, d, a, b, g, hq]; done)) (fun _ => ?_) (fun h0 => absurd h0 (by decide))
      refine Wp.reg_seq (own := fun _ => false) tt_ok ?_
      iterate 3
        refine regv_pure (s1 := ?_) rfl rfl ?_ ?_ ?_
        rotate_left
        · simp [f, e, d, a, b, g]; rfl
        · first | (simp [f, e, d, a, b, g] <;> omega) | (have hq := g; simp at hq; simp [f, e, d, a, b, g, hq]; done) | skip
      refine regv_nil ?_
      cases h
      refine Wp.ret (endQ_ret0 rfl ?_)
      repeat' first | exact All2.nil | refine All2.cons ?_ ?_ | refine AvLe.tups ?_ | refine AvLe.aggs ?_
      all_goals first
        | (exact AvLe.refl _ rfl)
        | (exact AvLe.nil _)
        | (exact AvLe.znil _)
        | (exact AvLe.ghost _ rfl)
        | (exact AvLe.zghost _ rfl)
        | (exact AvLe.sl' rfl (by simp [f, e, d, a, b, g]; done) (by simp [f, e, d, a, b, g]; done))
        | (exact AvLe.frz' rfl rfl rfl (by simp [f, e, d, a, b, g]; done) (by simp [f, e, d, a, b, g]; done) (by simp [f, e, d, a, b, g]; done))
        | (exact AvLe.list' (by simp [f, e, d, a, b, g]; done) (by simp [f, e, d, a, b, g]; done))
        | (exact AvLe.eq (by simp [f, e, d, a, b, g]; done) rfl)

end Go.Proofs.Ytgbgmijighbfbaa

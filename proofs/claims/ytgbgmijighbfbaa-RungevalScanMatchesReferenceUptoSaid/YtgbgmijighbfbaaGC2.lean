/- Contracts: models of functions are right. No law is proved here. -/
import Derived.Test.YtgbgmijighbfbaaGC1
namespace Go.Proofs.Ytgbgmijighbfbaa
open Go.Av Go.G
attribute [local simp] runf guardA opf St.ev Go.Av.look St.setd constAV constAV0 opBin opLen intBin St.need lookT TT0 tab resA resOne resAll blt_dec ble_dec beq_dec isPure
attribute [local simp] opMakeSlice opCopy opIndexAddr opLoad opStore St.mem St.rows opUn calleeA toArgs toArg toArg0 toArgs0 shift shift0 shift1 splice cellsOf isFree ofCells TS.isAgg isCell strBin opConvert
attribute [local simp] opBuildSlice fillA opAppend eqC eqA cksB ckB St.newBox runI valKind withinB readsHp refsD refs noSl opFieldAddr opBuild placeOf Op.operands Call.operands opIndex opExtract opSlice opField partA
attribute [local simp] loA hiA lenA opMakeMap opLookup opMapUpdate keyOk findA_int findA_str putA_strB putA_strI putA_intB mAV_length mAV_nil
attribute [local simp] aL cI cB cS cL rw_map fz_rw fz_const dropRow_rw fz_append fz_set fz_copy fz_rows rowLen_rw rowsLen_nil rowsLen_cons rowsLen_append rowsLen_map rowsLen_take rowsLen_drop rowsLen_replicate take_map_len take_map_le drop_map_len take_drop_len chunks isScalar isScalar0
attribute [local congr] bind_congr1 map_congr1 cond_congr1
attribute [local simp] cApiAddr cApiContact cApiCoil cApiRung cApiState
set_option maxHeartbeats 4000000
set_option linter.unusedSimpArgs false
set_option linter.unusedVariables false

def law12_TooLarge_S1 (n : Nat) (r_0 : ApiRung) (o : Int) : St :=
  { ch := [(1, .hptr 0 0 0), (3, .int .i64 o)], hp := [.var [.str r_0.Label, aL cApiContact r_0.Contacts, aL cApiCoil r_0.Coils, .str r_0.Jump]], base := 0, n := 32, cond := True }

def law12_TooLarge_S2 (n : Nat) (r_0 : ApiRung) (j : Int) (k : Int) : St :=
  { ch := [(1, .hptr 0 0 0), (3, .int .i64 j), (7, aL cApiContact r_0.Contacts), (8, .int .i64 (r_0.Contacts.length : Int)), (9, .int .i64 k)], hp := [.var [.str r_0.Label, aL cApiContact r_0.Contacts, aL cApiCoil r_0.Coils, .str r_0.Jump]], base := 0, n := 32, cond := True }

theorem con_law12_TooLarge {n : Nat} {r_0 : ApiRung} {r : Int} (h : law12_TooLarge n r_0 = some r) : Con Try.prog 10 [.agg (cApiRung r_0)] (.int .i64 r) [] := by
  refine con_of (T := TT0) tt_ok Try.func10 (c := _) (by unfold Try.f10; rfl) Try.ntmps10 (rs := [.tmp 2]) (by rw [Try.results10]) (by unfold Try.f10; rfl) (by simp) ?_
  simp only [argsCh]
  dsimp only [law12_TooLarge] at h
  refine Wp.reg_seq (own := fun _ => false) tt_ok ?_
  iterate 2
    refine regv_pure (s1 := ?_) rfl rfl ?_ ?_ ?_
    rotate_left
    · simp []; rfl
    · first | (simp [] <;> omega) | skip
  refine regv_nil ?_
  refine Wp.reg_seq (own := fun _ => false) tt_ok ?_
  iterate 1
    refine regv_pure (s1 := ?_) rfl rfl ?_ ?_ ?_
    rotate_left
    · simp []; rfl
    · first | (simp [] <;> omega) | skip
  refine regv_nil ?_
  refine Wp.join (α := Int) (fun x => law12_TooLarge_S1 n r_0 x) (fun x => law12_TooLarge_J1 r_0 x = some r) ?_ ?_
  · clear h
    rintro o h
    simp only [law12_TooLarge_S1]
    dsimp only [law12_TooLarge_J1] at h
    refine Wp.seq ?_
    refine Wp.reg_seq (own := fun _ => false) tt_ok ?_
    iterate 3
      refine regv_pure (s1 := ?_) rfl rfl ?_ ?_ ?_
      rotate_left
      · simp []; rfl
      · first | (simp [] <;> omega) | skip
    refine (Decidable.em (o > 2000)).symm.elim (fun a => ?_) (fun a => ?_)
    · rw [if_neg (by simpa using a)] at h
      refine regv_pure (s1 := ?_) rfl ?_ ?_ ?_ ?_
      rotate_left
      · simp [a]; done
      · simp [a]; rfl
      · first | (simp [a] <;> omega) | (have hq := a; simp at hq; simp [a, hq]; done) | skip
      refine regv_pure (s1 := ?_) rfl ?_ ?_ ?_ ?_
      rotate_left
      · simp [a]; done
      · simp [a]; rfl
      · first | (simp [a] <;> omega) | (have hq := a; simp at hq; simp [a, hq]; done) | skip
      refine regv_pure (s1 := ?_) rfl ?_ ?_ ?_ ?_
      rotate_left
      · simp [a]; done
      · simp [a]; rfl
      · first | (simp [a] <;> omega) | (have hq := a; simp at hq; simp [a, hq]; done) | skip
      refine regv_pure (s1 := ?_) rfl ?_ ?_ ?_ ?_
      rotate_left
      · simp [a]; done
      · simp [a]; rfl
      · first | (simp [a] <;> omega) | (have hq := a; simp at hq; simp [a, hq]; done) | skip
      iterate 1
        refine regv_pure (s1 := ?_) rfl rfl ?_ ?_ ?_
        rotate_left
        · simp [a]; rfl
        · first | (simp [a] <;> omega) | (have hq := a; simp at hq; simp [a, hq]; done) | skip
      refine regv_nil ?_
      refine (Decidable.em ((r_0.Contacts.length : Int) > 60)).symm.elim (fun g => ?_) (fun g => ?_)
      · rw [if_neg (by simpa using g)] at h
        refine Wp.cond false (by first | (simp [a, g] <;> omega) | (have hq := g; simp at hq; simp [a, g, hq]; done)) (fun h0 => absurd h0 (by decide)) (fun _ => ?_)
        refine Wp.skip ?_
        show Wp _ _ _ _
        refine Wp.reg_seq (own := fun _ => false) tt_ok ?_
        iterate 1
          refine regv_pure (s1 := ?_) rfl rfl ?_ ?_ ?_
          rotate_left
          · simp [a, g]; rfl
          · first | (simp [a, g] <;> omega) | (have hq := g; simp at hq; simp [a, g, hq]; done) | skip
        refine regv_nil ?_
        cases h
        refine Wp.ret (endQ_ret0 rfl ?_)
        repeat' first | exact All2.nil | refine All2.cons ?_ ?_ | refine AvLe.tups ?_ | refine AvLe.aggs ?_
        all_goals first
          | (exact AvLe.refl _ rfl)
          | (exact AvLe.nil _)
          | (exact AvLe.znil _)
          | (exact AvLe.ghost _ rfl)
          | (exact AvLe.zghost _ rfl)
          | (exact AvLe.sl' rfl (by simp [a, g]; done) (by simp [a, g]; done))
          | (exact AvLe.frz' rfl rfl rfl (by simp [a, g]; done) (by simp [a, g]; done) (by simp [a, g]; done))
          | (exact AvLe.list' (by simp [a, g]; done) (by simp [a, g]; done))
          | (exact AvLe.eq (by simp [a, g]; done) rfl)
      · rw [if_pos (decide_eq_true g)] at h
        refine Wp.cond true (by first | (simp [a, g] <;> omega) | (have hq := g; simp at hq; simp [a, g, hq]; done)) (fun _ => ?_) (fun h0 => absurd h0 (by decide))
        refine Wp.reg_seq (own := fun _ => false) tt_ok ?_
        iterate 1
          refine regv_pure (s1 := ?_) rfl rfl ?_ ?_ ?_
          rotate_left
          · simp [a, g]; rfl
          · first | (simp [a, g] <;> omega) | (have hq := g; simp at hq; simp [a, g, hq]; done) | skip
        refine regv_nil ?_
        cases h
        refine Wp.ret (endQ_ret0 rfl ?_)
        repeat' first | exact All2.nil | refine All2.cons ?_ ?_ | refine AvLe.tups ?_ | refine AvLe.aggs ?_
        all_goals first
          | (exact AvLe.refl _ rfl)
          | (exact AvLe.nil _)
          | (exact AvLe.znil _)
          | (exact AvLe.ghost _ rfl)
          | (exact AvLe.zghost _ rfl)
          | (exact AvLe.sl' rfl (by simp [a, g]; done) (by simp [a, g]; done))
          | (exact AvLe.frz' rfl rfl rfl (by simp [a, g]; done) (by simp [a, g]; done) (by simp [a, g]; done))
          | (exact AvLe.list' (by simp [a, g]; done) (by simp [a, g]; done))
          | (exact AvLe.eq (by simp [a, g]; done) rfl)
    · rw [if_pos (decide_eq_true a)] at h
      refine regv_skip (s1 := ?_) ?_ ?_ ?_
      rotate_left
      · simp [a]; done
      · simp [a]; rfl
      refine regv_skip (s1 := ?_) ?_ ?_ ?_
      rotate_left
      · simp [a]; done
      · simp [a]; rfl
      refine regv_skip (s1 := ?_) ?_ ?_ ?_
      rotate_left
      · simp [a]; done
      · simp [a]; rfl
      refine regv_skip (s1 := ?_) ?_ ?_ ?_
      rotate_left
      · simp [a]; done
      · simp [a]; rfl
      iterate 1
        refine regv_pure (s1 := ?_) rfl rfl ?_ ?_ ?_
        rotate_left
        · simp [a]; rfl
        · first | (simp [a] <;> omega) | (have hq := a; simp at hq; simp [a, hq]; done) | skip
      refine regv_nil ?_
      refine Wp.cond true (by first | (simp [a] <;> omega) | (have hq := a; simp at hq; simp [a, hq]; done)) (fun _ => ?_) (fun h0 => absurd h0 (by decide))
      refine Wp.reg_seq (own := fun _ => false) tt_ok ?_
      iterate 1
        refine regv_pure (s1 := ?_) rfl rfl ?_ ?_ ?_
        rotate_left
        · simp [a]; rfl
        · first | (simp [a] <;> omega) | (have hq := a; simp at hq; simp [a, hq]; done) | skip
      refine regv_nil ?_
      cases h
      refine Wp.ret (endQ_ret0 rfl ?_)
      repeat' first | exact All2.nil | refine All2.cons ?_ ?_ | refine AvLe.tups ?_ | refine AvLe.aggs ?_
      all_goals first
        | (exact AvLe.refl _ rfl)
        | (exact AvLe.nil _)
        | (exact AvLe.znil _)
        | (exact AvLe.ghost _ rfl)
        | (exact AvLe.zghost _ rfl)
        | (exact AvLe.sl' rfl (by simp [a]; done) (by simp [a]; done))
        | (exact AvLe.frz' rfl rfl rfl (by simp [a]; done) (by simp [a]; done) (by simp [a]; done))
        | (exact AvLe.list' (by simp [a]; done) (by simp [a]; done))
        | (exact AvLe.eq (by simp [a]; done) rfl)
  · skip
    refine Wp.reg_seq (own := fun _ => false) tt_ok ?_
    iterate 4
      refine regv_pure (s1 := ?_) rfl rfl ?_ ?_ ?_
      rotate_left
      · simp []; rfl
      · first | (simp [] <;> omega) | skip
    refine regv_nil ?_
    refine Wp.block ?_
    refine Wp.loopF (α := Int × Int) (fun x => law12_TooLarge_S2 n r_0 x.1 x.2) (fun m x => law12_TooLarge_L2 r_0 m x.1 x.2 = some r) (fun _ h => by cases h) ?_ n (0, 0) h ?_
    rotate_left
    · simp only [law12_TooLarge_S2]
      refine Reloc.mk2 [some 0] rfl rfl rfl (by decide) ?_ ?_
      · repeat' first | exact objsLe_nil | refine objsLe_cons ?_ ?_
        all_goals first
          | exact trivial
          | (refine ObjLe.var' rfl rfl ?_ rfl
             repeat' first | exact All2.nil | refine All2.cons ?_ ?_
             all_goals first | (exact AvLe.refl _ rfl) | (exact AvLe.sl _ _ _ _ rfl) | (exact AvLe.hptr _ _ _ _ rfl) | (exact AvLe.mp _ _ rfl) | (exact AvLe.nil _) | (exact AvLe.znil _) | (exact AvLe.ghost _ rfl) | (exact AvLe.zghost _ rfl) | (exact AvLe.sl' rfl (by simp []; done) (by first | (simp [] <;> omega) | omega)) | (exact AvLe.frz2 rfl (by simp) rfl (by simp []; done) (by simp []; done) (by simp []; done)) | (exact AvLe.list' (by simp []; done) (by simp []; done)) | (exact AvLe.eq (by simp []; done) rfl))
          | (exact ObjLe.map' rfl rfl)
          | (exact ObjLe.ghost' rfl (by decide))
          | (exact ObjLe.arr' rfl rfl (by first | (simp [] <;> omega)) (fun _ _ => by first | rfl | (simp []; done)))
          | ((simp []; done))
      · repeat' first | exact chLe_nil | refine chLe_cons ?_ ?_
        all_goals first
          | (exact AvLe.refl _ rfl)
          | (exact AvLe.sl _ _ _ _ rfl)
          | (exact AvLe.hptr _ _ _ _ rfl)
          | (exact AvLe.mp _ _ rfl)
          | (exact AvLe.nil _)
          | (exact AvLe.znil _)
          | (exact AvLe.ghost _ rfl)
          | (exact AvLe.zghost _ rfl)
          | (exact AvLe.sl' rfl (by simp []; done) (by first | (simp [] <;> omega) | omega))
          | (exact AvLe.frz2 rfl (by simp) rfl (by simp []; done) (by simp []; done) (by simp []; done))
          | (exact AvLe.list' (by simp []; done) (by simp []; done))
          | (exact AvLe.eq (by simp []; done) rfl)
    rintro rec_n2 ⟨j, k⟩ h
    simp only [law12_TooLarge_S2]
    dsimp only [law12_TooLarge_L2] at h
    refine Wp.reg_seq (own := fun _ => false) tt_ok ?_
    iterate 1
      refine regv_pure (s1 := ?_) rfl rfl ?_ ?_ ?_
      rotate_left
      · simp []; rfl
      · first | (simp [] <;> omega) | skip
    refine regv_nil ?_
    refine Wp.seq ?_
    refine (Decidable.em (k < (r_0.Contacts.length : Int))).symm.elim (fun b => ?_) (fun b => ?_)
    · rw [if_neg (by simpa using b)] at h
      refine Wp.cond false (by first | (simp [b] <;> omega) | (have hq := b; simp at hq; simp [b, hq]; done)) (fun h0 => absurd h0 (by decide)) (fun _ => ?_)
      refine Wp.exit ?_
      refine next_mk j h ?_
      refine Reloc.mk2 [some 0] rfl rfl rfl (by decide) ?_ ?_
      · repeat' first | exact objsLe_nil | refine objsLe_cons ?_ ?_
        all_goals first
          | exact trivial
          | (refine ObjLe.var' rfl rfl ?_ rfl
             repeat' first | exact All2.nil | refine All2.cons ?_ ?_
             all_goals first | (exact AvLe.refl _ rfl) | (exact AvLe.sl _ _ _ _ rfl) | (exact AvLe.hptr _ _ _ _ rfl) | (exact AvLe.mp _ _ rfl) | (exact AvLe.nil _) | (exact AvLe.znil _) | (exact AvLe.ghost _ rfl) | (exact AvLe.zghost _ rfl) | (exact AvLe.sl' rfl (by simp [b]; done) (by first | (simp [b] <;> omega) | omega)) | (exact AvLe.frz2 rfl (by simp) rfl (by simp [b]; done) (by simp [b]; done) (by simp [b]; done)) | (exact AvLe.list' (by simp [b]; done) (by simp [b]; done)) | (exact AvLe.eq (by simp [b]; done) rfl))
          | (exact ObjLe.map' rfl rfl)
          | (exact ObjLe.ghost' rfl (by decide))
          | (exact ObjLe.arr' rfl rfl (by first | (simp [b] <;> omega)) (fun _ _ => by first | rfl | (simp [b]; done)))
          | ((simp [b]; done))
      · repeat' first | exact chLe_nil | refine chLe_cons ?_ ?_
        all_goals first
          | (exact AvLe.refl _ rfl)
          | (exact AvLe.sl _ _ _ _ rfl)
          | (exact AvLe.hptr _ _ _ _ rfl)
          | (exact AvLe.mp _ _ rfl)
          | (exact AvLe.nil _)
          | (exact AvLe.znil _)
          | (exact AvLe.ghost _ rfl)
          | (exact AvLe.zghost _ rfl)
          | (exact AvLe.sl' rfl (by simp [b]; done) (by first | (simp [b] <;> omega) | omega))
          | (exact AvLe.frz2 rfl (by simp) rfl (by simp [b]; done) (by simp [b]; done) (by simp [b]; done))
          | (exact AvLe.list' (by simp [b]; done) (by simp [b]; done))
          | (exact AvLe.eq (by simp [b]; done) rfl)
    · rw [if_pos (decide_eq_true b)] at h
      refine Wp.cond true (by first | (simp [b] <;> omega) | (have hq := b; simp at hq; simp [b, hq]; done)) (fun _ => ?_) (fun h0 => absurd h0 (by decide))
      refine Wp.skip ?_
      show Wp _ _ _ _
      refine Wp.seq ?_
      refine Wp.block ?_
      refine Wp.reg_seq (own := fun _ => false) tt_ok ?_
      obtain ⟨p, q, h⟩ := obind h
      obtain ⟨i, f, e⟩ := atI_some q
      try simp [b] at f
      try simp only [Int.toNat_natCast, Int.reduceToNat, Nat.zero_add, Nat.add_zero] at e
      have d := getElem_of e
      iterate 4
        refine regv_pure (s1 := ?_) rfl rfl ?_ ?_ ?_
        rotate_left
        · simp [b, i, f, e, d]; rfl
        · first | (simp [b, i, f, e, d] <;> omega) | (have hq := d; simp at hq; simp [b, i, f, e, d, hq]; done) | skip
      refine regv_nil ?_
      refine Wp.reg (own := fun _ => false) tt_ok ?_
      iterate 11
        refine regv_pure (s1 := ?_) rfl rfl ?_ ?_ ?_
        rotate_left
        · simp [b, i, f, e, d]; rfl
        · first | (simp [b, i, f, e, d] <;> omega) | (have hq := d; simp at hq; simp [b, i, f, e, d, hq]; done) | skip
      refine regv_nil ?_
      show Wp _ _ _ _
      refine Wp.reg (own := fun _ => false) tt_ok ?_
      iterate 2
        refine regv_pure (s1 := ?_) rfl rfl ?_ ?_ ?_
        rotate_left
        · simp [b, i, f, e, d]; rfl
        · first | (simp [b, i, f, e, d] <;> omega) | (have hq := d; simp at hq; simp [b, i, f, e, d, hq]; done) | skip
      refine regv_nil ?_
      refine next_mk ((IntKind.i64.wrap (j + (IntKind.i64.wrap ((IntKind.i64.wrap (1 + (p.From.size : Int))) + (p.To.size : Int))))), (IntKind.i64.wrap (k + 1))) h ?_
      refine Reloc.mk2 [some 0] rfl rfl rfl (by decide) ?_ ?_
      · repeat' first | exact objsLe_nil | refine objsLe_cons ?_ ?_
        all_goals first
          | exact trivial
          | (refine ObjLe.var' rfl rfl ?_ rfl
             repeat' first | exact All2.nil | refine All2.cons ?_ ?_
             all_goals first | (exact AvLe.refl _ rfl) | (exact AvLe.sl _ _ _ _ rfl) | (exact AvLe.hptr _ _ _ _ rfl) | (exact AvLe.mp _ _ rfl) | (exact AvLe.nil _) | (exact AvLe.znil _) | (exact AvLe.ghost _ rfl) | (exact AvLe.zghost _ rfl) | (exact AvLe.sl' rfl (by simp [b, i, f, e, d]; done) (by first | (simp [b, i, f, e, d] <;> omega) | omega)) | (exact AvLe.frz2 rfl (by simp) rfl (by simp [b, i, f, e, d]; done) (by simp [b, i, f, e, d]; done) (by simp [b, i, f, e, d]; done)) | (exact AvLe.list' (by simp [b, i, f, e, d]; done) (by simp [b, i, f, e, d]; done)) | (exact AvLe.eq (by simp [b, i, f, e, d]; done) rfl))
          | (exact ObjLe.map' rfl rfl)
          | (exact ObjLe.ghost' rfl (by decide))
          | (exact ObjLe.arr' rfl rfl (by first | (simp [b, i, f, e, d] <;> omega)) (fun _ _ => by first | rfl | (simp [b, i, f, e, d]; done)))
          | ((simp [b, i, f, e, d]; done))
      · repeat' first | exact chLe_nil | refine chLe_cons ?_ ?_
        all_goals first
          | (exact AvLe.refl _ rfl)
          | (exact AvLe.sl _ _ _ _ rfl)
          | (exact AvLe.hptr _ _ _ _ rfl)
          | (exact AvLe.mp _ _ rfl)
          | (exact AvLe.nil _)
          | (exact AvLe.znil _)
          | (exact AvLe.ghost _ rfl)
          | (exact AvLe.zghost _ rfl)
          | (exact AvLe.sl' rfl (by simp [b, i, f, e, d]; done) (by first | (simp [b, i, f, e, d] <;> omega) | omega))
          | (exact AvLe.frz2 rfl (by simp) rfl (by simp [b, i, f, e, d]; done) (by simp [b, i, f, e, d]; done) (by simp [b, i, f, e, d]; done))
          | (exact AvLe.list' (by simp [b, i, f, e, d]; done) (by simp [b, i, f, e, d]; done))
          | (exact AvLe.eq (by simp [b, i, f, e, d]; done) rfl)

theorem con_law16_tooLarge {n : Nat} {r_0 : ApiRung} {in1 : List Bool} {st2 : ApiState} {r : Bool} (h : law16_tooLarge n r_0 in1 st2 = some r) : Con Try.prog 14 [.agg (cApiRung r_0), aL cB in1, .agg (cApiState st2)] (.bool r) [] := by
  refine con_of (T := TT0) tt_ok Try.func14 (c := _) (by unfold Try.f14; rfl) Try.ntmps14 (rs := [.tmp 6]) (by rw [Try.results14]) (by unfold Try.f14; rfl) (by simp) ?_
  simp only [argsCh]
  dsimp only [law16_tooLarge] at h
  refine Wp.reg_seq (own := fun _ => false) tt_ok ?_
  iterate 3
    refine regv_pure (s1 := ?_) rfl rfl ?_ ?_ ?_
    rotate_left
    · simp []; rfl
    · first | (simp [] <;> omega) | skip
  refine regv_nil ?_
  refine Wp.reg_seq (own := fun _ => false) tt_ok ?_
  iterate 1
    refine regv_pure (s1 := ?_) rfl rfl ?_ ?_ ?_
    rotate_left
    · simp []; rfl
    · first | (simp [] <;> omega) | skip
  obtain ⟨k, i, h⟩ := obind h
  refine regv_call2 (s' := ?_) (p := ?_) (con_law12_TooLarge i) rfl rfl rfl rfl ?_ ?_ ?_ ?_ ?_ ?_
  rotate_left 2
  · simp []; rfl
  · first | exact .inl rfl | (refine .inl ?_; simp []; done) | (refine .inr ?_; dsimp only; repeat' first | exact All2.nil | refine All2.cons ?_ ?_) <;> first | exact AvLe.refl _ rfl | exact AvLe.nil _ | exact AvLe.znil _ | exact AvLe.list' (by simp []; done) (by simp []; done) | exact AvLe.eq (by simp []; done) rfl
  · first | (simp [] <;> omega) | skip
  · simp
  · simp []; rfl
  iterate 2
    refine regv_pure (s1 := ?_) rfl rfl ?_ ?_ ?_
    rotate_left
    · simp []; rfl
    · first | (simp [] <;> omega) | skip
  refine (Decidable.em (k > 0)).symm.elim (fun a => ?_) (fun a => ?_)
  · rw [if_neg (by simpa using a)] at h
    refine regv_pure (s1 := ?_) rfl ?_ ?_ ?_ ?_
    rotate_left
    · simp [a]; done
    · simp [a]; rfl
    · first | (simp [a] <;> omega) | (have hq := a; simp at hq; simp [a, hq]; done) | skip
    refine regv_pure (s1 := ?_) rfl ?_ ?_ ?_ ?_
    rotate_left
    · simp [a]; done
    · simp [a]; rfl
    · first | (simp [a] <;> omega) | (have hq := a; simp at hq; simp [a, hq]; done) | skip
    refine regv_pure (s1 := ?_) rfl ?_ ?_ ?_ ?_
    rotate_left
    · simp [a]; done
    · simp [a]; rfl
    · first | (simp [a] <;> omega) | (have hq := a; simp at hq; simp [a, hq]; done) | skip
    refine regv_pure (s1 := ?_) rfl ?_ ?_ ?_ ?_
    rotate_left
    · simp [a]; done
    · simp [a]; rfl
    · first | (simp [a] <;> omega) | (have hq := a; simp at hq; simp [a, hq]; done) | skip
    iterate 2
      refine regv_pure (s1 := ?_) rfl rfl ?_ ?_ ?_
      rotate_left
      · simp [a]; rfl
      · first | (simp [a] <;> omega) | (have hq := a; simp at hq; simp [a, hq]; done) | skip
    refine (Decidable.em ((r_0.Coils.length : Int) > 100)).symm.elim (fun b => ?_) (fun b => ?_)
    · rw [if_neg (by simpa using b)] at h
      refine regv_pure (s1 := ?_) rfl ?_ ?_ ?_ ?_
      rotate_left
      · simp [a, b]; done
      · simp [a, b]; rfl
      · first | (simp [a, b] <;> omega) | (have hq := b; simp at hq; simp [a, b, hq]; done) | skip
      refine regv_pure (s1 := ?_) rfl ?_ ?_ ?_ ?_
      rotate_left
      · simp [a, b]; done
      · simp [a, b]; rfl
      · first | (simp [a, b] <;> omega) | (have hq := b; simp at hq; simp [a, b, hq]; done) | skip
      refine regv_pure (s1 := ?_) rfl ?_ ?_ ?_ ?_
      rotate_left
      · simp [a, b]; done
      · simp [a, b]; rfl
      · first | (simp [a, b] <;> omega) | (have hq := b; simp at hq; simp [a, b, hq]; done) | skip
      iterate 2
        refine regv_pure (s1 := ?_) rfl rfl ?_ ?_ ?_
        rotate_left
        · simp [a, b]; rfl
        · first | (simp [a, b] <;> omega) | (have hq := b; simp at hq; simp [a, b, hq]; done) | skip
      refine (Decidable.em ((in1.length : Int) > 500)).symm.elim (fun d => ?_) (fun d => ?_)
      · rw [if_neg (by simpa using d)] at h
        refine regv_pure (s1 := ?_) rfl ?_ ?_ ?_ ?_
        rotate_left
        · simp [a, b, d]; done
        · simp [a, b, d]; rfl
        · first | (simp [a, b, d] <;> omega) | (have hq := d; simp at hq; simp [a, b, d, hq]; done) | skip
        refine regv_pure (s1 := ?_) rfl ?_ ?_ ?_ ?_
        rotate_left
        · simp [a, b, d]; done
        · simp [a, b, d]; rfl
        · first | (simp [a, b, d] <;> omega) | (have hq := d; simp at hq; simp [a, b, d, hq]; done) | skip
        obtain ⟨m, g, h⟩ := obind h
        have f := congrArg (List.map cApiState) (Option.some.inj g)
        have e := (congrArg List.length (Option.some.inj g)).symm
        try simp [a, b, d] at f
        try simp [a, b, d] at e
        clear g
        try simp only [f]
        obtain ⟨o, j, h⟩ := obind h
        refine regv_call2 (s' := ?_) (p := ?_) (con_law03_TooLarge j) rfl rfl rfl rfl ?_ ?_ ?_ ?_ ?_ ?_
        rotate_left 2
        · simp [a, b, d, f, e]; rfl
        · first | exact .inl rfl | (refine .inl ?_; simp [a, b, d, f, e]; done) | (refine .inr ?_; dsimp only; repeat' first | exact All2.nil | refine All2.cons ?_ ?_) <;> first | exact AvLe.refl _ rfl | exact AvLe.nil _ | exact AvLe.znil _ | exact AvLe.list' (by simp [a, b, d, f, e]; done) (by simp [a, b, d, f, e]; done) | exact AvLe.eq (by simp [a, b, d, f, e]; done) rfl
        · first | (simp [a, b, d, f, e] <;> omega) | (have hq := e; simp at hq; simp [a, b, d, f, e, hq]; done) | skip
        · simp
        · simp [a, b, d, f, e]; rfl
        refine regv_pure (s1 := ?_) rfl ?_ ?_ ?_ ?_
        rotate_left
        · simp [a, b, d, f, e]; done
        · simp [a, b, d, f, e]; rfl
        · first | (simp [a, b, d, f, e] <;> omega) | (have hq := e; simp at hq; simp [a, b, d, f, e, hq]; done) | skip
        iterate 2
          refine regv_pure (s1 := ?_) rfl rfl ?_ ?_ ?_
          rotate_left
          · simp [a, b, d, f, e]; rfl
          · first | (simp [a, b, d, f, e] <;> omega) | (have hq := e; simp at hq; simp [a, b, d, f, e, hq]; done) | skip
        refine regv_nil ?_
        cases h
        refine Wp.ret (endQ_ret0 rfl ?_)
        repeat' first | exact All2.nil | refine All2.cons ?_ ?_ | refine AvLe.tups ?_ | refine AvLe.aggs ?_
        all_goals first
          | (exact AvLe.refl _ rfl)
          | (exact AvLe.nil _)
          | (exact AvLe.znil _)
          | (exact AvLe.ghost _ rfl)
          | (exact AvLe.zghost _ rfl)
          | (exact AvLe.sl' rfl (by simp [a, b, d, f, e]; done) (by simp [a, b, d, f, e]; done))
          | (exact AvLe.frz' rfl rfl rfl (by simp [a, b, d, f, e]; done) (by simp [a, b, d, f, e]; done) (by simp [a, b, d, f, e]; done))
          | (exact AvLe.list' (by simp [a, b, d, f, e]; done) (by simp [a, b, d, f, e]; done))
          | (exact AvLe.eq (by simp [a, b, d, f, e]; done) rfl)
      · rw [if_pos (decide_eq_true d)] at h
        refine regv_skip (s1 := ?_) ?_ ?_ ?_
        rotate_left
        · simp [a, b, d]; done
        · simp [a, b, d]; rfl
        refine regv_skip (s1 := ?_) ?_ ?_ ?_
        rotate_left
        · simp [a, b, d]; done
        · simp [a, b, d]; rfl
        refine regv_skip (s1 := ?_) ?_ ?_ ?_
        rotate_left
        · simp [a, b, d]; done
        · simp [a, b, d]; rfl
        refine regv_skip (s1 := ?_) ?_ ?_ ?_
        rotate_left
        · simp [a, b, d]; done
        · simp [a, b, d]; rfl
        iterate 2
          refine regv_pure (s1 := ?_) rfl rfl ?_ ?_ ?_
          rotate_left
          · simp [a, b, d]; rfl
          · first | (simp [a, b, d] <;> omega) | (have hq := d; simp at hq; simp [a, b, d, hq]; done) | skip
        refine regv_nil ?_
        cases h
        refine Wp.ret (endQ_ret0 rfl ?_)
        repeat' first | exact All2.nil | refine All2.cons ?_ ?_ | refine AvLe.tups ?_ | refine AvLe.aggs ?_
        all_goals first
          | (exact AvLe.refl _ rfl)
          | (exact AvLe.nil _)
          | (exact AvLe.znil _)
          | (exact AvLe.ghost _ rfl)
          | (exact AvLe.zghost _ rfl)
          | (exact AvLe.sl' rfl (by simp [a, b, d]; done) (by simp [a, b, d]; done))
          | (exact AvLe.frz' rfl rfl rfl (by simp [a, b, d]; done) (by simp [a, b, d]; done) (by simp [a, b, d]; done))
          | (exact AvLe.list' (by simp [a, b, d]; done) (by simp [a, b, d]; done))
          | (exact AvLe.eq (by simp [a, b, d]; done) rfl)
    · rw [if_pos (decide_eq_true b)] at h
      refine regv_skip (s1 := ?_) ?_ ?_ ?_
      rotate_left
      · simp [a, b]; done
      · simp [a, b]; rfl
      refine regv_skip (s1 := ?_) ?_ ?_ ?_
      rotate_left
      · simp [a, b]; done
      · simp [a, b]; rfl
      refine regv_skip (s1 := ?_) ?_ ?_ ?_
      rotate_left
      · simp [a, b]; done
      · simp [a, b]; rfl
      iterate 2
        refine regv_pure (s1 := ?_) rfl rfl ?_ ?_ ?_
        rotate_left
        · simp [a, b]; rfl
        · first | (simp [a, b] <;> omega) | (have hq := b; simp at hq; simp [a, b, hq]; done) | skip
      refine regv_skip (s1 := ?_) ?_ ?_ ?_
      rotate_left
      · simp [a, b]; done
      · simp [a, b]; rfl
      refine regv_skip (s1 := ?_) ?_ ?_ ?_
      rotate_left
      · simp [a, b]; done
      · simp [a, b]; rfl
      refine regv_skip (s1 := ?_) ?_ ?_ ?_
      rotate_left
      · simp [a, b]; done
      · simp [a, b]; rfl
      refine regv_skip (s1 := ?_) ?_ ?_ ?_
      rotate_left
      · simp [a, b]; done
      · simp [a, b]; rfl
      iterate 2
        refine regv_pure (s1 := ?_) rfl rfl ?_ ?_ ?_
        rotate_left
        · simp [a, b]; rfl
        · first | (simp [a, b] <;> omega) | (have hq := b; simp at hq; simp [a, b, hq]; done) | skip
      refine regv_nil ?_
      cases h
      refine Wp.ret (endQ_ret0 rfl ?_)
      repeat' first | exact All2.nil | refine All2.cons ?_ ?_ | refine AvLe.tups ?_ | refine AvLe.aggs ?_
      all_goals first
        | (exact AvLe.refl _ rfl)
        | (exact AvLe.nil _)
        | (exact AvLe.znil _)
        | (exact AvLe.ghost _ rfl)
        | (exact AvLe.zghost _ rfl)
        | (exact AvLe.sl' rfl (by simp [a, b]; done) (by simp [a, b]; done))
        | (exact AvLe.frz' rfl rfl rfl (by simp [a, b]; done) (by simp [a, b]; done) (by simp [a, b]; done))
        | (exact AvLe.list' (by simp [a, b]; done) (by simp [a, b]; done))
        | (exact AvLe.eq (by simp [a, b]; done) rfl)
  · rw [if_pos (decide_eq_true a)] at h
    refine regv_skip (s1 := ?_) ?_ ?_ ?_
    rotate_left
    · simp [a]; done
    · simp [a]; rfl
    refine regv_skip (s1 := ?_) ?_ ?_ ?_
    rotate_left
    · simp [a]; done
    · simp [a]; rfl
    refine regv_skip (s1 := ?_) ?_ ?_ ?_
    rotate_left
    · simp [a]; done
    · simp [a]; rfl
    refine regv_skip (s1 := ?_) ?_ ?_ ?_
    rotate_left
    · simp [a]; done
    · simp [a]; rfl
    iterate 2
      refine regv_pure (s1 := ?_) rfl rfl ?_ ?_ ?_
      rotate_left
      · simp [a]; rfl
      · first | (simp [a] <;> omega) | (have hq := a; simp at hq; simp [a, hq]; done) | skip
    refine regv_skip (s1 := ?_) ?_ ?_ ?_
    rotate_left
    · simp [a]; done
    · simp [a]; rfl
    refine regv_skip (s1 := ?_) ?_ ?_ ?_
    rotate_left
    · simp [a]; done
    · simp [a]; rfl
    refine regv_skip (s1 := ?_) ?_ ?_ ?_
    rotate_left
    · simp [a]; done
    · simp [a]; rfl
    iterate 2
      refine regv_pure (s1 := ?_) rfl rfl ?_ ?_ ?_
      rotate_left
      · simp [a]; rfl
      · first | (simp [a] <;> omega) | (have hq := a; simp at hq; simp [a, hq]; done) | skip
    refine regv_skip (s1 := ?_) ?_ ?_ ?_
    rotate_left
    · simp [a]; done
    · simp [a]; rfl
    refine regv_skip (s1 := ?_) ?_ ?_ ?_
    rotate_left
    · simp [a]; done
    · simp [a]; rfl
    refine regv_skip (s1 := ?_) ?_ ?_ ?_
    rotate_left
    · simp [a]; done
    · simp [a]; rfl
    refine regv_skip (s1 := ?_) ?_ ?_ ?_
    rotate_left
    · simp [a]; done
    · simp [a]; rfl
    iterate 2
      refine regv_pure (s1 := ?_) rfl rfl ?_ ?_ ?_
      rotate_left
      · simp [a]; rfl
      · first | (simp [a] <;> omega) | (have hq := a; simp at hq; simp [a, hq]; done) | skip
    refine regv_nil ?_
    cases h
    refine Wp.ret (endQ_ret0 rfl ?_)
    repeat' first | exact All2.nil | refine All2.cons ?_ ?_ | refine AvLe.tups ?_ | refine AvLe.aggs ?_
    all_goals first
      | (exact AvLe.refl _ rfl)
      | (exact AvLe.nil _)
      | (exact AvLe.znil _)
      | (exact AvLe.ghost _ rfl)
      | (exact AvLe.zghost _ rfl)
      | (exact AvLe.sl' rfl (by simp [a]; done) (by simp [a]; done))
      | (exact AvLe.frz' rfl rfl rfl (by simp [a]; done) (by simp [a]; done) (by simp [a]; done))
      | (exact AvLe.list' (by simp [a]; done) (by simp [a]; done))
      | (exact AvLe.eq (by simp [a]; done) rfl)

theorem con_law16_alive {n : Nat} {r : Bool} (h : law16_alive n  = some r) : Con Try.prog 11 [] (.bool r) [] := by
  refine con_of (T := TT0) tt_ok Try.func11 (c := _) (by unfold Try.f11; rfl) Try.ntmps11 (rs := [.tmp 0]) (by rw [Try.results11]) (by unfold Try.f11; rfl) (by simp) ?_
  simp only [argsCh]
  dsimp only [law16_alive] at h
  refine Wp.reg_seq (own := fun _ => false) tt_ok ?_
  iterate 1
    refine regv_pure (s1 := ?_) rfl rfl ?_ ?_ ?_
    rotate_left
    · simp []; rfl
    · first | (simp [] <;> omega) | skip
  refine regv_nil ?_
  refine Wp.reg_seq (own := fun _ => false) tt_ok ?_
  iterate 2
    refine regv_pure (s1 := ?_) rfl rfl ?_ ?_ ?_
    rotate_left
    · simp []; rfl
    · first | (simp [] <;> omega) | skip
  obtain ⟨bw, aw, h⟩ := obind h
  have a := congrArg (List.map cApiContact) (Option.some.inj aw)
  have b := (congrArg List.length (Option.some.inj aw)).symm
  try simp [] at a
  try simp [] at b
  clear aw
  try simp only [a]
  iterate 3
    refine regv_pure (s1 := ?_) rfl rfl ?_ ?_ ?_
    rotate_left
    · simp [a, b]; rfl
    · first | (simp [a, b] <;> omega) | (have hq := b; simp at hq; simp [a, b, hq]; done) | skip
  obtain ⟨bz, ay, h⟩ := obind h
  have e := congrArg (List.map cApiCoil) (Option.some.inj ay)
  have d := (congrArg List.length (Option.some.inj ay)).symm
  try simp [a, b] at e
  try simp [a, b] at d
  clear ay
  try simp only [e]
  iterate 3
    refine regv_pure (s1 := ?_) rfl rfl ?_ ?_ ?_
    rotate_left
    · simp [a, b, e, d]; rfl
    · first | (simp [a, b, e, d] <;> omega) | (have hq := d; simp at hq; simp [a, b, e, d, hq]; done) | skip
  refine regv_nil ?_
  refine Wp.reg_seq (own := fun _ => false) tt_ok ?_
  iterate 2
    refine regv_pure (s1 := ?_) rfl rfl ?_ ?_ ?_
    rotate_left
    · simp [a, b, e, d]; rfl
    · first | (simp [a, b, e, d] <;> omega) | (have hq := d; simp at hq; simp [a, b, e, d, hq]; done) | skip
  obtain ⟨ca, az, h⟩ := obind h
  have f := congrArg (List.map cB) (Option.some.inj az)
  have g := (congrArg List.length (Option.some.inj az)).symm
  try simp [a, b, e, d] at f
  try simp [a, b, e, d] at g
  clear az
  try simp only [f]
  iterate 1
    refine regv_pure (s1 := ?_) rfl rfl ?_ ?_ ?_
    rotate_left
    · simp [a, b, e, d, f, g]; rfl
    · first | (simp [a, b, e, d, f, g] <;> omega) | (have hq := g; simp at hq; simp [a, b, e, d, f, g, hq]; done) | skip
  obtain ⟨cb, ba, h⟩ := obind h
  have i := congrArg (List.map cB) (Option.some.inj ba)
  have j := (congrArg List.length (Option.some.inj ba)).symm
  try simp [a, b, e, d, f, g] at i
  try simp [a, b, e, d, f, g] at j
  clear ba
  try simp only [i]
  iterate 1
    refine regv_pure (s1 := ?_) rfl rfl ?_ ?_ ?_
    rotate_left
    · simp [a, b, e, d, f, g, i, j]; rfl
    · first | (simp [a, b, e, d, f, g, i, j] <;> omega) | (have hq := j; simp at hq; simp [a, b, e, d, f, g, i, j, hq]; done) | skip
  obtain ⟨cc, bb, h⟩ := obind h
  have m := congrArg (List.map cB) (Option.some.inj bb)
  have k := (congrArg List.length (Option.some.inj bb)).symm
  try simp [a, b, e, d, f, g, i, j] at m
  try simp [a, b, e, d, f, g, i, j] at k
  clear bb
  try simp only [m]
  iterate 1
    refine regv_pure (s1 := ?_) rfl rfl ?_ ?_ ?_
    rotate_left
    · simp [a, b, e, d, f, g, i, j, m, k]; rfl
    · first | (simp [a, b, e, d, f, g, i, j, m, k] <;> omega) | (have hq := k; simp at hq; simp [a, b, e, d, f, g, i, j, m, k, hq]; done) | skip
  obtain ⟨⟨bd, bk, bm⟩, be, h⟩ := obind h
  dsimp only at h
  refine regv_call2 (s' := ?_) (p := ?_) (con_rungeval_Scan be) rfl rfl rfl rfl ?_ ?_ ?_ ?_ ?_ ?_
  rotate_left 2
  · simp [a, b, e, d, f, g, i, j, m, k]; rfl
  · first | exact .inl rfl | (refine .inl ?_; simp [a, b, e, d, f, g, i, j, m, k]; done) | (refine .inr ?_; dsimp only; repeat' first | exact All2.nil | refine All2.cons ?_ ?_) <;> first | exact AvLe.refl _ rfl | exact AvLe.nil _ | exact AvLe.znil _ | exact AvLe.list' (by simp [a, b, e, d, f, g, i, j, m, k]; done) (by simp [a, b, e, d, f, g, i, j, m, k]; done) | exact AvLe.eq (by simp [a, b, e, d, f, g, i, j, m, k]; done) rfl
  · first | (simp [a, b, e, d, f, g, i, j, m, k] <;> omega) | (have hq := k; simp at hq; simp [a, b, e, d, f, g, i, j, m, k, hq]; done) | skip
  · simp
  · simp [a, b, e, d, f, g, i, j, m, k]; rfl
  iterate 8
    refine regv_pure (s1 := ?_) rfl rfl ?_ ?_ ?_
    rotate_left
    · simp [a, b, e, d, f, g, i, j, m, k]; rfl
    · first | (simp [a, b, e, d, f, g, i, j, m, k] <;> omega) | (have hq := k; simp at hq; simp [a, b, e, d, f, g, i, j, m, k, hq]; done) | skip
  refine regv_nil ?_
  refine Wp.reg_seq (own := fun _ => false) tt_ok ?_
  iterate 2
    refine regv_pure (s1 := ?_) rfl rfl ?_ ?_ ?_
    rotate_left
    · simp [a, b, e, d, f, g, i, j, m, k]; rfl
    · first | (simp [a, b, e, d, f, g, i, j, m, k] <;> omega) | (have hq := k; simp at hq; simp [a, b, e, d, f, g, i, j, m, k, hq]; done) | skip
  obtain ⟨cd, bc, h⟩ := obind h
  have q := congrArg (List.map cB) (Option.some.inj bc)
  have o := (congrArg List.length (Option.some.inj bc)).symm
  try simp [a, b, e, d, f, g, i, j, m, k] at q
  try simp [a, b, e, d, f, g, i, j, m, k] at o
  clear bc
  try simp only [q]
  iterate 1
    refine regv_pure (s1 := ?_) rfl rfl ?_ ?_ ?_
    rotate_left
    · simp [a, b, e, d, f, g, i, j, m, k, q, o]; rfl
    · first | (simp [a, b, e, d, f, g, i, j, m, k, q, o] <;> omega) | (have hq := o; simp at hq; simp [a, b, e, d, f, g, i, j, m, k, q, o, hq]; done) | skip
  obtain ⟨⟨bo, bp, bq⟩, bf, h⟩ := obind h
  dsimp only at h
  refine regv_call2 (s' := ?_) (p := ?_) (con_rungeval_Scan bf) rfl rfl rfl rfl ?_ ?_ ?_ ?_ ?_ ?_
  rotate_left 2
  · simp [a, b, e, d, f, g, i, j, m, k, q, o]; rfl
  · first | exact .inl rfl | (refine .inl ?_; simp [a, b, e, d, f, g, i, j, m, k, q, o]; done) | (refine .inr ?_; dsimp only; repeat' first | exact All2.nil | refine All2.cons ?_ ?_) <;> first | exact AvLe.refl _ rfl | exact AvLe.nil _ | exact AvLe.znil _ | exact AvLe.list' (by simp [a, b, e, d, f, g, i, j, m, k, q, o]; done) (by simp [a, b, e, d, f, g, i, j, m, k, q, o]; done) | exact AvLe.eq (by simp [a, b, e, d, f, g, i, j, m, k, q, o]; done) rfl
  · first | (simp [a, b, e, d, f, g, i, j, m, k, q, o] <;> omega) | (have hq := o; simp at hq; simp [a, b, e, d, f, g, i, j, m, k, q, o, hq]; done) | skip
  · simp
  · simp [a, b, e, d, f, g, i, j, m, k, q, o]; rfl
  iterate 8
    refine regv_pure (s1 := ?_) rfl rfl ?_ ?_ ?_
    rotate_left
    · simp [a, b, e, d, f, g, i, j, m, k, q, o]; rfl
    · first | (simp [a, b, e, d, f, g, i, j, m, k, q, o] <;> omega) | (have hq := o; simp at hq; simp [a, b, e, d, f, g, i, j, m, k, q, o, hq]; done) | skip
  refine regv_nil ?_
  refine Wp.reg_seq (own := fun _ => false) tt_ok ?_
  iterate 3
    refine regv_pure (s1 := ?_) rfl rfl ?_ ?_ ?_
    rotate_left
    · simp [a, b, e, d, f, g, i, j, m, k, q, o]; rfl
    · first | (simp [a, b, e, d, f, g, i, j, m, k, q, o] <;> omega) | (have hq := o; simp at hq; simp [a, b, e, d, f, g, i, j, m, k, q, o, hq]; done) | skip
  cases u : (bm == 0)
  · rw [u, if_neg (by simp)] at h
    refine regv_skip (s1 := ?_) ?_ ?_ ?_
    rotate_left
    · simp [a, b, e, d, f, g, i, j, m, k, q, o, u]; done
    · simp [a, b, e, d, f, g, i, j, m, k, q, o, u]; rfl
    iterate 2
      refine regv_pure (s1 := ?_) rfl rfl ?_ ?_ ?_
      rotate_left
      · simp [a, b, e, d, f, g, i, j, m, k, q, o, u]; rfl
      · first | (simp [a, b, e, d, f, g, i, j, m, k, q, o, u] <;> omega) | (have hq := u; simp at hq; simp [a, b, e, d, f, g, i, j, m, k, q, o, u, hq]; done) | skip
    refine regv_skip (s1 := ?_) ?_ ?_ ?_
    rotate_left
    · simp [a, b, e, d, f, g, i, j, m, k, q, o, u]; done
    · simp [a, b, e, d, f, g, i, j, m, k, q, o, u]; rfl
    refine regv_skip (s1 := ?_) ?_ ?_ ?_
    rotate_left
    · simp [a, b, e, d, f, g, i, j, m, k, q, o, u]; done
    · simp [a, b, e, d, f, g, i, j, m, k, q, o, u]; rfl
    refine regv_skip (s1 := ?_) ?_ ?_ ?_
    rotate_left
    · simp [a, b, e, d, f, g, i, j, m, k, q, o, u]; done
    · simp [a, b, e, d, f, g, i, j, m, k, q, o, u]; rfl
    refine regv_skip (s1 := ?_) ?_ ?_ ?_
    rotate_left
    · simp [a, b, e, d, f, g, i, j, m, k, q, o, u]; done
    · simp [a, b, e, d, f, g, i, j, m, k, q, o, u]; rfl
    iterate 2
      refine regv_pure (s1 := ?_) rfl rfl ?_ ?_ ?_
      rotate_left
      · simp [a, b, e, d, f, g, i, j, m, k, q, o, u]; rfl
      · first | (simp [a, b, e, d, f, g, i, j, m, k, q, o, u] <;> omega) | (have hq := u; simp at hq; simp [a, b, e, d, f, g, i, j, m, k, q, o, u, hq]; done) | skip
    refine regv_skip (s1 := ?_) ?_ ?_ ?_
    rotate_left
    · simp [a, b, e, d, f, g, i, j, m, k, q, o, u]; done
    · simp [a, b, e, d, f, g, i, j, m, k, q, o, u]; rfl
    refine regv_skip (s1 := ?_) ?_ ?_ ?_
    rotate_left
    · simp [a, b, e, d, f, g, i, j, m, k, q, o, u]; done
    · simp [a, b, e, d, f, g, i, j, m, k, q, o, u]; rfl
    refine regv_skip (s1 := ?_) ?_ ?_ ?_
    rotate_left
    · simp [a, b, e, d, f, g, i, j, m, k, q, o, u]; done
    · simp [a, b, e, d, f, g, i, j, m, k, q, o, u]; rfl
    refine regv_skip (s1 := ?_) ?_ ?_ ?_
    rotate_left
    · simp [a, b, e, d, f, g, i, j, m, k, q, o, u]; done
    · simp [a, b, e, d, f, g, i, j, m, k, q, o, u]; rfl
    iterate 2
      refine regv_pure (s1 := ?_) rfl rfl ?_ ?_ ?_
      rotate_left
      · simp [a, b, e, d, f, g, i, j, m, k, q, o, u]; rfl
      · first | (simp [a, b, e, d, f, g, i, j, m, k, q, o, u] <;> omega) | (have hq := u; simp at hq; simp [a, b, e, d, f, g, i, j, m, k, q, o, u, hq]; done) | skip
    refine regv_skip (s1 := ?_) ?_ ?_ ?_
    rotate_left
    · simp [a, b, e, d, f, g, i, j, m, k, q, o, u]; done
    · simp [a, b, e, d, f, g, i, j, m, k, q, o, u]; rfl
    refine regv_skip (s1 := ?_) ?_ ?_ ?_
    rotate_left
    · simp [a, b, e, d, f, g, i, j, m, k, q, o, u]; done
    · simp [a, b, e, d, f, g, i, j, m, k, q, o, u]; rfl
    refine regv_skip (s1 := ?_) ?_ ?_ ?_
    rotate_left
    · simp [a, b, e, d, f, g, i, j, m, k, q, o, u]; done
    · simp [a, b, e, d, f, g, i, j, m, k, q, o, u]; rfl
    refine regv_skip (s1 := ?_) ?_ ?_ ?_
    rotate_left
    · simp [a, b, e, d, f, g, i, j, m, k, q, o, u]; done
    · simp [a, b, e, d, f, g, i, j, m, k, q, o, u]; rfl
    iterate 2
      refine regv_pure (s1 := ?_) rfl rfl ?_ ?_ ?_
      rotate_left
      · simp [a, b, e, d, f, g, i, j, m, k, q, o, u]; rfl
      · first | (simp [a, b, e, d, f, g, i, j, m, k, q, o, u] <;> omega) | (have hq := u; simp at hq; simp [a, b, e, d, f, g, i, j, m, k, q, o, u, hq]; done) | skip
    refine regv_skip (s1 := ?_) ?_ ?_ ?_
    rotate_left
    · simp [a, b, e, d, f, g, i, j, m, k, q, o, u]; done
    · simp [a, b, e, d, f, g, i, j, m, k, q, o, u]; rfl
    refine regv_skip (s1 := ?_) ?_ ?_ ?_
    rotate_left
    · simp [a, b, e, d, f, g, i, j, m, k, q, o, u]; done
    · simp [a, b, e, d, f, g, i, j, m, k, q, o, u]; rfl
    refine regv_skip (s1 := ?_) ?_ ?_ ?_
    rotate_left
    · simp [a, b, e, d, f, g, i, j, m, k, q, o, u]; done
    · simp [a, b, e, d, f, g, i, j, m, k, q, o, u]; rfl
    refine regv_skip (s1 := ?_) ?_ ?_ ?_
    rotate_left
    · simp [a, b, e, d, f, g, i, j, m, k, q, o, u]; done
    · simp [a, b, e, d, f, g, i, j, m, k, q, o, u]; rfl
    iterate 2
      refine regv_pure (s1 := ?_) rfl rfl ?_ ?_ ?_
      rotate_left
      · simp [a, b, e, d, f, g, i, j, m, k, q, o, u]; rfl
      · first | (simp [a, b, e, d, f, g, i, j, m, k, q, o, u] <;> omega) | (have hq := u; simp at hq; simp [a, b, e, d, f, g, i, j, m, k, q, o, u, hq]; done) | skip
    refine regv_skip (s1 := ?_) ?_ ?_ ?_
    rotate_left
    · simp [a, b, e, d, f, g, i, j, m, k, q, o, u]; done
    · simp [a, b, e, d, f, g, i, j, m, k, q, o, u]; rfl
    refine regv_skip (s1 := ?_) ?_ ?_ ?_
    rotate_left
    · simp [a, b, e, d, f, g, i, j, m, k, q, o, u]; done
    · simp [a, b, e, d, f, g, i, j, m, k, q, o, u]; rfl
    iterate 2
      refine regv_pure (s1 := ?_) rfl rfl ?_ ?_ ?_
      rotate_left
      · simp [a, b, e, d, f, g, i, j, m, k, q, o, u]; rfl
      · first | (simp [a, b, e, d, f, g, i, j, m, k, q, o, u] <;> omega) | (have hq := u; simp at hq; simp [a, b, e, d, f, g, i, j, m, k, q, o, u, hq]; done) | skip
    refine regv_skip (s1 := ?_) ?_ ?_ ?_
    rotate_left
    · simp [a, b, e, d, f, g, i, j, m, k, q, o, u]; done
    · simp [a, b, e, d, f, g, i, j, m, k, q, o, u]; rfl
    refine regv_skip (s1 := ?_) ?_ ?_ ?_
    rotate_left
    · simp [a, b, e, d, f, g, i, j, m, k, q, o, u]; done
    · simp [a, b, e, d, f, g, i, j, m, k, q, o, u]; rfl
    iterate 2
      refine regv_pure (s1 := ?_) rfl rfl ?_ ?_ ?_
      rotate_left
      · simp [a, b, e, d, f, g, i, j, m, k, q, o, u]; rfl
      · first | (simp [a, b, e, d, f, g, i, j, m, k, q, o, u] <;> omega) | (have hq := u; simp at hq; simp [a, b, e, d, f, g, i, j, m, k, q, o, u, hq]; done) | skip
    refine regv_skip (s1 := ?_) ?_ ?_ ?_
    rotate_left
    · simp [a, b, e, d, f, g, i, j, m, k, q, o, u]; done
    · simp [a, b, e, d, f, g, i, j, m, k, q, o, u]; rfl
    refine regv_skip (s1 := ?_) ?_ ?_ ?_
    rotate_left
    · simp [a, b, e, d, f, g, i, j, m, k, q, o, u]; done
    · simp [a, b, e, d, f, g, i, j, m, k, q, o, u]; rfl
    refine regv_skip (s1 := ?_) ?_ ?_ ?_
    rotate_left
    · simp [a, b, e, d, f, g, i, j, m, k, q, o, u]; done
    · simp [a, b, e, d, f, g, i, j, m, k, q, o, u]; rfl
    refine regv_skip (s1 := ?_) ?_ ?_ ?_
    rotate_left
    · simp [a, b, e, d, f, g, i, j, m, k, q, o, u]; done
    · simp [a, b, e, d, f, g, i, j, m, k, q, o, u]; rfl
    iterate 2
      refine regv_pure (s1 := ?_) rfl rfl ?_ ?_ ?_
      rotate_left
      · simp [a, b, e, d, f, g, i, j, m, k, q, o, u]; rfl
      · first | (simp [a, b, e, d, f, g, i, j, m, k, q, o, u] <;> omega) | (have hq := u; simp at hq; simp [a, b, e, d, f, g, i, j, m, k, q, o, u, hq]; done) | skip
    refine regv_skip (s1 := ?_) ?_ ?_ ?_
    rotate_left
    · simp [a, b, e, d, f, g, i, j, m, k, q, o, u]; done
    · simp [a, b, e, d, f, g, i, j, m, k, q, o, u]; rfl
    refine regv_skip (s1 := ?_) ?_ ?_ ?_
    rotate_left
    · simp [a, b, e, d, f, g, i, j, m, k, q, o, u]; done
    · simp [a, b, e, d, f, g, i, j, m, k, q, o, u]; rfl
    refine regv_skip (s1 := ?_) ?_ ?_ ?_
    rotate_left
    · simp [a, b, e, d, f, g, i, j, m, k, q, o, u]; done
    · simp [a, b, e, d, f, g, i, j, m, k, q, o, u]; rfl
    refine regv_skip (s1 := ?_) ?_ ?_ ?_
    rotate_left
    · simp [a, b, e, d, f, g, i, j, m, k, q, o, u]; done
    · simp [a, b, e, d, f, g, i, j, m, k, q, o, u]; rfl
    refine regv_skip (s1 := ?_) ?_ ?_ ?_
    rotate_left
    · simp [a, b, e, d, f, g, i, j, m, k, q, o, u]; done
    · simp [a, b, e, d, f, g, i, j, m, k, q, o, u]; rfl
    iterate 2
      refine regv_pure (s1 := ?_) rfl rfl ?_ ?_ ?_
      rotate_left
      · simp [a, b, e, d, f, g, i, j, m, k, q, o, u]; rfl
      · first | (simp [a, b, e, d, f, g, i, j, m, k, q, o, u] <;> omega) | (have hq := u; simp at hq; simp [a, b, e, d, f, g, i, j, m, k, q, o, u, hq]; done) | skip
    refine regv_nil ?_
    cases h
    refine Wp.ret (endQ_ret0 rfl ?_)
    repeat' first | exact All2.nil | refine All2.cons ?_ ?_ | refine AvLe.tups ?_ | refine AvLe.aggs ?_
    all_goals first
      | (exact AvLe.refl _ rfl)
      | (exact AvLe.nil _)
      | (exact AvLe.znil _)
      | (exact AvLe.ghost _ rfl)
      | (exact AvLe.zghost _ rfl)
      | (exact AvLe.sl' rfl (by simp [a, b, e, d, f, g, i, j, m, k, q, o, u]; done) (by simp [a, b, e, d, f, g, i, j, m, k, q, o, u]; done))
      | (exact AvLe.frz' rfl rfl rfl (by simp [a, b, e, d, f, g, i, j, m, k, q, o, u]; done) (by simp [a, b, e, d, f, g, i, j, m, k, q, o, u]; done) (by simp [a, b, e, d, f, g, i, j, m, k, q, o, u]; done))
      | (exact AvLe.list' (by simp [a, b, e, d, f, g, i, j, m, k, q, o, u]; done) (by simp [a, b, e, d, f, g, i, j, m, k, q, o, u]; done))
      | (exact AvLe.eq (by simp [a, b, e, d, f, g, i, j, m, k, q, o, u]; done) rfl)
  · rw [u, if_pos rfl] at h
    refine regv_pure (s1 := ?_) rfl ?_ ?_ ?_ ?_
    rotate_left
    · simp [a, b, e, d, f, g, i, j, m, k, q, o, u]; done
    · simp [a, b, e, d, f, g, i, j, m, k, q, o, u]; rfl
    · first | (simp [a, b, e, d, f, g, i, j, m, k, q, o, u] <;> omega) | (have hq := u; simp at hq; simp [a, b, e, d, f, g, i, j, m, k, q, o, u, hq]; done) | skip
    iterate 2
      refine regv_pure (s1 := ?_) rfl rfl ?_ ?_ ?_
      rotate_left
      · simp [a, b, e, d, f, g, i, j, m, k, q, o, u]; rfl
      · first | (simp [a, b, e, d, f, g, i, j, m, k, q, o, u] <;> omega) | (have hq := u; simp at hq; simp [a, b, e, d, f, g, i, j, m, k, q, o, u, hq]; done) | skip
    cases v : bk
    · rw [v, if_neg (by simp)] at h
      refine regv_skip (s1 := ?_) ?_ ?_ ?_
      rotate_left
      · simp [a, b, e, d, f, g, i, j, m, k, q, o, u, v]; done
      · simp [a, b, e, d, f, g, i, j, m, k, q, o, u, v]; rfl
      refine regv_skip (s1 := ?_) ?_ ?_ ?_
      rotate_left
      · simp [a, b, e, d, f, g, i, j, m, k, q, o, u, v]; done
      · simp [a, b, e, d, f, g, i, j, m, k, q, o, u, v]; rfl
      refine regv_skip (s1 := ?_) ?_ ?_ ?_
      rotate_left
      · simp [a, b, e, d, f, g, i, j, m, k, q, o, u, v]; done
      · simp [a, b, e, d, f, g, i, j, m, k, q, o, u, v]; rfl
      refine regv_skip (s1 := ?_) ?_ ?_ ?_
      rotate_left
      · simp [a, b, e, d, f, g, i, j, m, k, q, o, u, v]; done
      · simp [a, b, e, d, f, g, i, j, m, k, q, o, u, v]; rfl
      iterate 2
        refine regv_pure (s1 := ?_) rfl rfl ?_ ?_ ?_
        rotate_left
        · simp [a, b, e, d, f, g, i, j, m, k, q, o, u, v]; rfl
        · first | (simp [a, b, e, d, f, g, i, j, m, k, q, o, u, v] <;> omega) | (have hq := v; simp at hq; simp [a, b, e, d, f, g, i, j, m, k, q, o, u, v, hq]; done) | skip
      refine regv_skip (s1 := ?_) ?_ ?_ ?_
      rotate_left
      · simp [a, b, e, d, f, g, i, j, m, k, q, o, u, v]; done
      · simp [a, b, e, d, f, g, i, j, m, k, q, o, u, v]; rfl
      refine regv_skip (s1 := ?_) ?_ ?_ ?_
      rotate_left
      · simp [a, b, e, d, f, g, i, j, m, k, q, o, u, v]; done
      · simp [a, b, e, d, f, g, i, j, m, k, q, o, u, v]; rfl
      refine regv_skip (s1 := ?_) ?_ ?_ ?_
      rotate_left
      · simp [a, b, e, d, f, g, i, j, m, k, q, o, u, v]; done
      · simp [a, b, e, d, f, g, i, j, m, k, q, o, u, v]; rfl
      refine regv_skip (s1 := ?_) ?_ ?_ ?_
      rotate_left
      · simp [a, b, e, d, f, g, i, j, m, k, q, o, u, v]; done
      · simp [a, b, e, d, f, g, i, j, m, k, q, o, u, v]; rfl
      iterate 2
        refine regv_pure (s1 := ?_) rfl rfl ?_ ?_ ?_
        rotate_left
        · simp [a, b, e, d, f, g, i, j, m, k, q, o, u, v]; rfl
        · first | (simp [a, b, e, d, f, g, i, j, m, k, q, o, u, v] <;> omega) | (have hq := v; simp at hq; simp [a, b, e, d, f, g, i, j, m, k, q, o, u, v, hq]; done) | skip
      refine regv_skip (s1 := ?_) ?_ ?_ ?_
      rotate_left
      · simp [a, b, e, d, f, g, i, j, m, k, q, o, u, v]; done
      · simp [a, b, e, d, f, g, i, j, m, k, q, o, u, v]; rfl
      refine regv_skip (s1 := ?_) ?_ ?_ ?_
      rotate_left
      · simp [a, b, e, d, f, g, i, j, m, k, q, o, u, v]; done
      · simp [a, b, e, d, f, g, i, j, m, k, q, o, u, v]; rfl
      refine regv_skip (s1 := ?_) ?_ ?_ ?_
      rotate_left
      · simp [a, b, e, d, f, g, i, j, m, k, q, o, u, v]; done
      · simp [a, b, e, d, f, g, i, j, m, k, q, o, u, v]; rfl
      refine regv_skip (s1 := ?_) ?_ ?_ ?_
      rotate_left
      · simp [a, b, e, d, f, g, i, j, m, k, q, o, u, v]; done
      · simp [a, b, e, d, f, g, i, j, m, k, q, o, u, v]; rfl
      iterate 2
        refine regv_pure (s1 := ?_) rfl rfl ?_ ?_ ?_
        rotate_left
        · simp [a, b, e, d, f, g, i, j, m, k, q, o, u, v]; rfl
        · first | (simp [a, b, e, d, f, g, i, j, m, k, q, o, u, v] <;> omega) | (have hq := v; simp at hq; simp [a, b, e, d, f, g, i, j, m, k, q, o, u, v, hq]; done) | skip
      refine regv_skip (s1 := ?_) ?_ ?_ ?_
      rotate_left
      · simp [a, b, e, d, f, g, i, j, m, k, q, o, u, v]; done
      · simp [a, b, e, d, f, g, i, j, m, k, q, o, u, v]; rfl
      refine regv_skip (s1 := ?_) ?_ ?_ ?_
      rotate_left
      · simp [a, b, e, d, f, g, i, j, m, k, q, o, u, v]; done
      · simp [a, b, e, d, f, g, i, j, m, k, q, o, u, v]; rfl
      refine regv_skip (s1 := ?_) ?_ ?_ ?_
      rotate_left
      · simp [a, b, e, d, f, g, i, j, m, k, q, o, u, v]; done
      · simp [a, b, e, d, f, g, i, j, m, k, q, o, u, v]; rfl
      refine regv_skip (s1 := ?_) ?_ ?_ ?_
      rotate_left
      · simp [a, b, e, d, f, g, i, j, m, k, q, o, u, v]; done
      · simp [a, b, e, d, f, g, i, j, m, k, q, o, u, v]; rfl
      iterate 2
        refine regv_pure (s1 := ?_) rfl rfl ?_ ?_ ?_
        rotate_left
        · simp [a, b, e, d, f, g, i, j, m, k, q, o, u, v]; rfl
        · first | (simp [a, b, e, d, f, g, i, j, m, k, q, o, u, v] <;> omega) | (have hq := v; simp at hq; simp [a, b, e, d, f, g, i, j, m, k, q, o, u, v, hq]; done) | skip
      refine regv_skip (s1 := ?_) ?_ ?_ ?_
      rotate_left
      · simp [a, b, e, d, f, g, i, j, m, k, q, o, u, v]; done
      · simp [a, b, e, d, f, g, i, j, m, k, q, o, u, v]; rfl
      refine regv_skip (s1 := ?_) ?_ ?_ ?_
      rotate_left
      · simp [a, b, e, d, f, g, i, j, m, k, q, o, u, v]; done
      · simp [a, b, e, d, f, g, i, j, m, k, q, o, u, v]; rfl
      iterate 2
        refine regv_pure (s1 := ?_) rfl rfl ?_ ?_ ?_
        rotate_left
        · simp [a, b, e, d, f, g, i, j, m, k, q, o, u, v]; rfl
        · first | (simp [a, b, e, d, f, g, i, j, m, k, q, o, u, v] <;> omega) | (have hq := v; simp at hq; simp [a, b, e, d, f, g, i, j, m, k, q, o, u, v, hq]; done) | skip
      refine regv_skip (s1 := ?_) ?_ ?_ ?_
      rotate_left
      · simp [a, b, e, d, f, g, i, j, m, k, q, o, u, v]; done
      · simp [a, b, e, d, f, g, i, j, m, k, q, o, u, v]; rfl
      refine regv_skip (s1 := ?_) ?_ ?_ ?_
      rotate_left
      · simp [a, b, e, d, f, g, i, j, m, k, q, o, u, v]; done
      · simp [a, b, e, d, f, g, i, j, m, k, q, o, u, v]; rfl
      iterate 2
        refine regv_pure (s1 := ?_) rfl rfl ?_ ?_ ?_
        rotate_left
        · simp [a, b, e, d, f, g, i, j, m, k, q, o, u, v]; rfl
        · first | (simp [a, b, e, d, f, g, i, j, m, k, q, o, u, v] <;> omega) | (have hq := v; simp at hq; simp [a, b, e, d, f, g, i, j, m, k, q, o, u, v, hq]; done) | skip
      refine regv_skip (s1 := ?_) ?_ ?_ ?_
      rotate_left
      · simp [a, b, e, d, f, g, i, j, m, k, q, o, u, v]; done
      · simp [a, b, e, d, f, g, i, j, m, k, q, o, u, v]; rfl
      refine regv_skip (s1 := ?_) ?_ ?_ ?_
      rotate_left
      · simp [a, b, e, d, f, g, i, j, m, k, q, o, u, v]; done
      · simp [a, b, e, d, f, g, i, j, m, k, q, o, u, v]; rfl
      refine regv_skip (s1 := ?_) ?_ ?_ ?_
      rotate_left
      · simp [a, b, e, d, f, g, i, j, m, k, q, o, u, v]; done
      · simp [a, b, e, d, f, g, i, j, m, k, q, o, u, v]; rfl
      refine regv_skip (s1 := ?_) ?_ ?_ ?_
      rotate_left
      · simp [a, b, e, d, f, g, i, j, m, k, q, o, u, v]; done
      · simp [a, b, e, d, f, g, i, j, m, k, q, o, u, v]; rfl
      iterate 2
        refine regv_pure (s1 := ?_) rfl rfl ?_ ?_ ?_
        rotate_left
        · simp [a, b, e, d, f, g, i, j, m, k, q, o, u, v]; rfl
        · first | (simp [a, b, e, d, f, g, i, j, m, k, q, o, u, v] <;> omega) | (have hq := v; simp at hq; simp [a, b, e, d, f, g, i, j, m, k, q, o, u, v, hq]; done) | skip
      refine regv_skip (s1 := ?_) ?_ ?_ ?_
      rotate_left
      · simp [a, b, e, d, f, g, i, j, m, k, q, o, u, v]; done
      · simp [a, b, e, d, f, g, i, j, m, k, q, o, u, v]; rfl
      refine regv_skip (s1 := ?_) ?_ ?_ ?_
      rotate_left
      · simp [a, b, e, d, f, g, i, j, m, k, q, o, u, v]; done
      · simp [a, b, e, d, f, g, i, j, m, k, q, o, u, v]; rfl
      refine regv_skip (s1 := ?_) ?_ ?_ ?_
      rotate_left
      · simp [a, b, e, d, f, g, i, j, m, k, q, o, u, v]; done
      · simp [a, b, e, d, f, g, i, j, m, k, q, o, u, v]; rfl
      refine regv_skip (s1 := ?_) ?_ ?_ ?_
      rotate_left
      · simp [a, b, e, d, f, g, i, j, m, k, q, o, u, v]; done
      · simp [a, b, e, d, f, g, i, j, m, k, q, o, u, v]; rfl
      refine regv_skip (s1 := ?_) ?_ ?_ ?_
      rotate_left
      · simp [a, b, e, d, f, g, i, j, m, k, q, o, u, v]; done
      · simp [a, b, e, d, f, g, i, j, m, k, q, o, u, v]; rfl
      iterate 2
        refine regv_pure (s1 := ?_) rfl rfl ?_ ?_ ?_
        rotate_left
        · simp [a, b, e, d, f, g, i, j, m, k, q, o, u, v]; rfl
        · first | (simp [a, b, e, d, f, g, i, j, m, k, q, o, u, v] <;> omega) | (have hq := v; simp at hq; simp [a, b, e, d, f, g, i, j, m, k, q, o, u, v, hq]; done) | skip
      refine regv_nil ?_
      cases h
      refine Wp.ret (endQ_ret0 rfl ?_)
      repeat' first | exact All2.nil | refine All2.cons ?_ ?_ | refine AvLe.tups ?_ | refine AvLe.aggs ?_
      all_goals first
        | (exact AvLe.refl _ rfl)
        | (exact AvLe.nil _)
        | (exact AvLe.znil _)
        | (exact AvLe.ghost _ rfl)
        | (exact AvLe.zghost _ rfl)
        | (exact AvLe.sl' rfl (by simp [a, b, e, d, f, g, i, j, m, k, q, o, u, v]; done) (by simp [a, b, e, d, f, g, i, j, m, k, q, o, u, v]; done))
        | (exact AvLe.frz' rfl rfl rfl (by simp [a, b, e, d, f, g, i, j, m, k, q, o, u, v]; done) (by simp [a, b, e, d, f, g, i, j, m, k, q, o, u, v]; done) (by simp [a, b, e, d, f, g, i, j, m, k, q, o, u, v]; done))
        | (exact AvLe.list' (by simp [a, b, e, d, f, g, i, j, m, k, q, o, u, v]; done) (by simp [a, b, e, d, f, g, i, j, m, k, q, o, u, v]; done))
        | (exact AvLe.eq (by simp [a, b, e, d, f, g, i, j, m, k, q, o, u, v]; done) rfl)
    · rw [v, if_pos rfl] at h
      refine regv_pure (s1 := ?_) rfl ?_ ?_ ?_ ?_
      rotate_left
      · simp [a, b, e, d, f, g, i, j, m, k, q, o, u, v]; done
      · simp [a, b, e, d, f, g, i, j, m, k, q, o, u, v]; rfl
      · first | (simp [a, b, e, d, f, g, i, j, m, k, q, o, u, v] <;> omega) | (have hq := v; simp at hq; simp [a, b, e, d, f, g, i, j, m, k, q, o, u, v, hq]; done) | skip
      refine regv_pure (s1 := ?_) rfl ?_ ?_ ?_ ?_
      rotate_left
      · simp [a, b, e, d, f, g, i, j, m, k, q, o, u, v]; done
      · simp [a, b, e, d, f, g, i, j, m, k, q, o, u, v]; rfl
      · first | (simp [a, b, e, d, f, g, i, j, m, k, q, o, u, v] <;> omega) | (have hq := v; simp at hq; simp [a, b, e, d, f, g, i, j, m, k, q, o, u, v, hq]; done) | skip
      refine regv_pure (s1 := ?_) rfl ?_ ?_ ?_ ?_
      rotate_left
      · simp [a, b, e, d, f, g, i, j, m, k, q, o, u, v]; done
      · simp [a, b, e, d, f, g, i, j, m, k, q, o, u, v]; rfl
      · first | (simp [a, b, e, d, f, g, i, j, m, k, q, o, u, v] <;> omega) | (have hq := v; simp at hq; simp [a, b, e, d, f, g, i, j, m, k, q, o, u, v, hq]; done) | skip
      refine regv_pure (s1 := ?_) rfl ?_ ?_ ?_ ?_
      rotate_left
      · simp [a, b, e, d, f, g, i, j, m, k, q, o, u, v]; done
      · simp [a, b, e, d, f, g, i, j, m, k, q, o, u, v]; rfl
      · first | (simp [a, b, e, d, f, g, i, j, m, k, q, o, u, v] <;> omega) | (have hq := v; simp at hq; simp [a, b, e, d, f, g, i, j, m, k, q, o, u, v, hq]; done) | skip
      iterate 2
        refine regv_pure (s1 := ?_) rfl rfl ?_ ?_ ?_
        rotate_left
        · simp [a, b, e, d, f, g, i, j, m, k, q, o, u, v]; rfl
        · first | (simp [a, b, e, d, f, g, i, j, m, k, q, o, u, v] <;> omega) | (have hq := v; simp at hq; simp [a, b, e, d, f, g, i, j, m, k, q, o, u, v, hq]; done) | skip
      cases w : ((bd.Q.length : Int) == 1)
      · rw [w, if_neg (by simp)] at h
        refine regv_skip (s1 := ?_) ?_ ?_ ?_
        rotate_left
        · simp [a, b, e, d, f, g, i, j, m, k, q, o, u, v, w]; done
        · simp [a, b, e, d, f, g, i, j, m, k, q, o, u, v, w]; rfl
        refine regv_skip (s1 := ?_) ?_ ?_ ?_
        rotate_left
        · simp [a, b, e, d, f, g, i, j, m, k, q, o, u, v, w]; done
        · simp [a, b, e, d, f, g, i, j, m, k, q, o, u, v, w]; rfl
        refine regv_skip (s1 := ?_) ?_ ?_ ?_
        rotate_left
        · simp [a, b, e, d, f, g, i, j, m, k, q, o, u, v, w]; done
        · simp [a, b, e, d, f, g, i, j, m, k, q, o, u, v, w]; rfl
        refine regv_skip (s1 := ?_) ?_ ?_ ?_
        rotate_left
        · simp [a, b, e, d, f, g, i, j, m, k, q, o, u, v, w]; done
        · simp [a, b, e, d, f, g, i, j, m, k, q, o, u, v, w]; rfl
        iterate 2
          refine regv_pure (s1 := ?_) rfl rfl ?_ ?_ ?_
          rotate_left
          · simp [a, b, e, d, f, g, i, j, m, k, q, o, u, v, w]; rfl
          · first | (simp [a, b, e, d, f, g, i, j, m, k, q, o, u, v, w] <;> omega) | (have hq := w; simp at hq; simp [a, b, e, d, f, g, i, j, m, k, q, o, u, v, w, hq]; done) | skip
        refine regv_skip (s1 := ?_) ?_ ?_ ?_
        rotate_left
        · simp [a, b, e, d, f, g, i, j, m, k, q, o, u, v, w]; done
        · simp [a, b, e, d, f, g, i, j, m, k, q, o, u, v, w]; rfl
        refine regv_skip (s1 := ?_) ?_ ?_ ?_
        rotate_left
        · simp [a, b, e, d, f, g, i, j, m, k, q, o, u, v, w]; done
        · simp [a, b, e, d, f, g, i, j, m, k, q, o, u, v, w]; rfl
        refine regv_skip (s1 := ?_) ?_ ?_ ?_
        rotate_left
        · simp [a, b, e, d, f, g, i, j, m, k, q, o, u, v, w]; done
        · simp [a, b, e, d, f, g, i, j, m, k, q, o, u, v, w]; rfl
        refine regv_skip (s1 := ?_) ?_ ?_ ?_
        rotate_left
        · simp [a, b, e, d, f, g, i, j, m, k, q, o, u, v, w]; done
        · simp [a, b, e, d, f, g, i, j, m, k, q, o, u, v, w]; rfl
        iterate 2
          refine regv_pure (s1 := ?_) rfl rfl ?_ ?_ ?_
          rotate_left
          · simp [a, b, e, d, f, g, i, j, m, k, q, o, u, v, w]; rfl
          · first | (simp [a, b, e, d, f, g, i, j, m, k, q, o, u, v, w] <;> omega) | (have hq := w; simp at hq; simp [a, b, e, d, f, g, i, j, m, k, q, o, u, v, w, hq]; done) | skip
        refine regv_skip (s1 := ?_) ?_ ?_ ?_
        rotate_left
        · simp [a, b, e, d, f, g, i, j, m, k, q, o, u, v, w]; done
        · simp [a, b, e, d, f, g, i, j, m, k, q, o, u, v, w]; rfl
        refine regv_skip (s1 := ?_) ?_ ?_ ?_
        rotate_left
        · simp [a, b, e, d, f, g, i, j, m, k, q, o, u, v, w]; done
        · simp [a, b, e, d, f, g, i, j, m, k, q, o, u, v, w]; rfl
        refine regv_skip (s1 := ?_) ?_ ?_ ?_
        rotate_left
        · simp [a, b, e, d, f, g, i, j, m, k, q, o, u, v, w]; done
        · simp [a, b, e, d, f, g, i, j, m, k, q, o, u, v, w]; rfl
        refine regv_skip (s1 := ?_) ?_ ?_ ?_
        rotate_left
        · simp [a, b, e, d, f, g, i, j, m, k, q, o, u, v, w]; done
        · simp [a, b, e, d, f, g, i, j, m, k, q, o, u, v, w]; rfl
        iterate 2
          refine regv_pure (s1 := ?_) rfl rfl ?_ ?_ ?_
          rotate_left
          · simp [a, b, e, d, f, g, i, j, m, k, q, o, u, v, w]; rfl
          · first | (simp [a, b, e, d, f, g, i, j, m, k, q, o, u, v, w] <;> omega) | (have hq := w; simp at hq; simp [a, b, e, d, f, g, i, j, m, k, q, o, u, v, w, hq]; done) | skip
        refine regv_skip (s1 := ?_) ?_ ?_ ?_
        rotate_left
        · simp [a, b, e, d, f, g, i, j, m, k, q, o, u, v, w]; done
        · simp [a, b, e, d, f, g, i, j, m, k, q, o, u, v, w]; rfl
        refine regv_skip (s1 := ?_) ?_ ?_ ?_
        rotate_left
        · simp [a, b, e, d, f, g, i, j, m, k, q, o, u, v, w]; done
        · simp [a, b, e, d, f, g, i, j, m, k, q, o, u, v, w]; rfl
        iterate 2
          refine regv_pure (s1 := ?_) rfl rfl ?_ ?_ ?_
          rotate_left
          · simp [a, b, e, d, f, g, i, j, m, k, q, o, u, v, w]; rfl
          · first | (simp [a, b, e, d, f, g, i, j, m, k, q, o, u, v, w] <;> omega) | (have hq := w; simp at hq; simp [a, b, e, d, f, g, i, j, m, k, q, o, u, v, w, hq]; done) | skip
        refine regv_skip (s1 := ?_) ?_ ?_ ?_
        rotate_left
        · simp [a, b, e, d, f, g, i, j, m, k, q, o, u, v, w]; done
        · simp [a, b, e, d, f, g, i, j, m, k, q, o, u, v, w]; rfl
        refine regv_skip (s1 := ?_) ?_ ?_ ?_
        rotate_left
        · simp [a, b, e, d, f, g, i, j, m, k, q, o, u, v, w]; done
        · simp [a, b, e, d, f, g, i, j, m, k, q, o, u, v, w]; rfl
        iterate 2
          refine regv_pure (s1 := ?_) rfl rfl ?_ ?_ ?_
          rotate_left
          · simp [a, b, e, d, f, g, i, j, m, k, q, o, u, v, w]; rfl
          · first | (simp [a, b, e, d, f, g, i, j, m, k, q, o, u, v, w] <;> omega) | (have hq := w; simp at hq; simp [a, b, e, d, f, g, i, j, m, k, q, o, u, v, w, hq]; done) | skip
        refine regv_skip (s1 := ?_) ?_ ?_ ?_
        rotate_left
        · simp [a, b, e, d, f, g, i, j, m, k, q, o, u, v, w]; done
        · simp [a, b, e, d, f, g, i, j, m, k, q, o, u, v, w]; rfl
        refine regv_skip (s1 := ?_) ?_ ?_ ?_
        rotate_left
        · simp [a, b, e, d, f, g, i, j, m, k, q, o, u, v, w]; done
        · simp [a, b, e, d, f, g, i, j, m, k, q, o, u, v, w]; rfl
        refine regv_skip (s1 := ?_) ?_ ?_ ?_
        rotate_left
        · simp [a, b, e, d, f, g, i, j, m, k, q, o, u, v, w]; done
        · simp [a, b, e, d, f, g, i, j, m, k, q, o, u, v, w]; rfl
        refine regv_skip (s1 := ?_) ?_ ?_ ?_
        rotate_left
        · simp [a, b, e, d, f, g, i, j, m, k, q, o, u, v, w]; done
        · simp [a, b, e, d, f, g, i, j, m, k, q, o, u, v, w]; rfl
        iterate 2
          refine regv_pure (s1 := ?_) rfl rfl ?_ ?_ ?_
          rotate_left
          · simp [a, b, e, d, f, g, i, j, m, k, q, o, u, v, w]; rfl
          · first | (simp [a, b, e, d, f, g, i, j, m, k, q, o, u, v, w] <;> omega) | (have hq := w; simp at hq; simp [a, b, e, d, f, g, i, j, m, k, q, o, u, v, w, hq]; done) | skip
        refine regv_skip (s1 := ?_) ?_ ?_ ?_
        rotate_left
        · simp [a, b, e, d, f, g, i, j, m, k, q, o, u, v, w]; done
        · simp [a, b, e, d, f, g, i, j, m, k, q, o, u, v, w]; rfl
        refine regv_skip (s1 := ?_) ?_ ?_ ?_
        rotate_left
        · simp [a, b, e, d, f, g, i, j, m, k, q, o, u, v, w]; done
        · simp [a, b, e, d, f, g, i, j, m, k, q, o, u, v, w]; rfl
        refine regv_skip (s1 := ?_) ?_ ?_ ?_
        rotate_left
        · simp [a, b, e, d, f, g, i, j, m, k, q, o, u, v, w]; done
        · simp [a, b, e, d, f, g, i, j, m, k, q, o, u, v, w]; rfl
        refine regv_skip (s1 := ?_) ?_ ?_ ?_
        rotate_left
        · simp [a, b, e, d, f, g, i, j, m, k, q, o, u, v, w]; done
        · simp [a, b, e, d, f, g, i, j, m, k, q, o, u, v, w]; rfl
        refine regv_skip (s1 := ?_) ?_ ?_ ?_
        rotate_left
        · simp [a, b, e, d, f, g, i, j, m, k, q, o, u, v, w]; done
        · simp [a, b, e, d, f, g, i, j, m, k, q, o, u, v, w]; rfl
        iterate 2
          refine regv_pure (s1 := ?_) rfl rfl ?_ ?_ ?_
          rotate_left
          · simp [a, b, e, d, f, g, i, j, m, k, q, o, u, v, w]; rfl
          · first | (simp [a, b, e, d, f, g, i, j, m, k, q, o, u, v, w] <;> omega) | (have hq := w; simp at hq; simp [a, b, e, d, f, g, i, j, m, k, q, o, u, v, w, hq]; done) | skip
        refine regv_nil ?_
        cases h
        refine Wp.ret (endQ_ret0 rfl ?_)
        repeat' first | exact All2.nil | refine All2.cons ?_ ?_ | refine AvLe.tups ?_ | refine AvLe.aggs ?_
        all_goals first
          | (exact AvLe.refl _ rfl)
          | (exact AvLe.nil _)
          | (exact AvLe.znil _)
          | (exact AvLe.ghost _ rfl)
          | (exact AvLe.zghost _ rfl)
          | (exact AvLe.sl' rfl (by simp [a, b, e, d, f, g, i, j, m, k, q, o, u, v, w]; done) (by simp [a, b, e, d, f, g, i, j, m, k, q, o, u, v, w]; done))
          | (exact AvLe.frz' rfl rfl rfl (by simp [a, b, e, d, f, g, i, j, m, k, q, o, u, v, w]; done) (by simp [a, b, e, d, f, g, i, j, m, k, q, o, u, v, w]; done) (by simp [a, b, e, d, f, g, i, j, m, k, q, o, u, v, w]; done))
          | (exact AvLe.list' (by simp [a, b, e, d, f, g, i, j, m, k, q, o, u, v, w]; done) (by simp [a, b, e, d, f, g, i, j, m, k, q, o, u, v, w]; done))
          | (exact AvLe.eq (by simp [a, b, e, d, f, g, i, j, m, k, q, o, u, v, w]; done) rfl)
      · rw [w, if_pos rfl] at h
        refine regv_pure (s1 := ?_) rfl ?_ ?_ ?_ ?_
        rotate_left
        · simp [a, b, e, d, f, g, i, j, m, k, q, o, u, v, w]; done
        · simp [a, b, e, d, f, g, i, j, m, k, q, o, u, v, w]; rfl
        · first | (simp [a, b, e, d, f, g, i, j, m, k, q, o, u, v, w] <;> omega) | (have hq := w; simp at hq; simp [a, b, e, d, f, g, i, j, m, k, q, o, u, v, w, hq]; done) | skip
        refine regv_pure (s1 := ?_) rfl ?_ ?_ ?_ ?_
        rotate_left
        · simp [a, b, e, d, f, g, i, j, m, k, q, o, u, v, w]; done
        · simp [a, b, e, d, f, g, i, j, m, k, q, o, u, v, w]; rfl
        · first | (simp [a, b, e, d, f, g, i, j, m, k, q, o, u, v, w] <;> omega) | (have hq := w; simp at hq; simp [a, b, e, d, f, g, i, j, m, k, q, o, u, v, w, hq]; done) | skip
        obtain ⟨bu, bg, h⟩ := obind h
        obtain ⟨ab, aa, z⟩ := atI_some bg
        try simp [a, b, e, d, f, g, i, j, m, k, q, o, u, v, w] at aa
        try simp only [Int.toNat_natCast, Int.reduceToNat, Nat.zero_add, Nat.add_zero] at z
        have y := getElem_of z
        refine regv_pure (s1 := ?_) rfl ?_ ?_ ?_ ?_
        rotate_left
        · simp [a, b, e, d, f, g, i, j, m, k, q, o, u, v, w, ab, aa, z, y]; done
        · simp [a, b, e, d, f, g, i, j, m, k, q, o, u, v, w, ab, aa, z, y]; rfl
        · first | (simp [a, b, e, d, f, g, i, j, m, k, q, o, u, v, w, ab, aa, z, y] <;> omega) | (have hq := y; simp at hq; simp [a, b, e, d, f, g, i, j, m, k, q, o, u, v, w, ab, aa, z, y, hq]; done) | skip
        refine regv_pure (s1 := ?_) rfl ?_ ?_ ?_ ?_
        rotate_left
        · simp [a, b, e, d, f, g, i, j, m, k, q, o, u, v, w, ab, aa, z, y]; done
        · simp [a, b, e, d, f, g, i, j, m, k, q, o, u, v, w, ab, aa, z, y]; rfl
        · first | (simp [a, b, e, d, f, g, i, j, m, k, q, o, u, v, w, ab, aa, z, y] <;> omega) | (have hq := y; simp at hq; simp [a, b, e, d, f, g, i, j, m, k, q, o, u, v, w, ab, aa, z, y, hq]; done) | skip
        iterate 2
          refine regv_pure (s1 := ?_) rfl rfl ?_ ?_ ?_
          rotate_left
          · simp [a, b, e, d, f, g, i, j, m, k, q, o, u, v, w, ab, aa, z, y]; rfl
          · first | (simp [a, b, e, d, f, g, i, j, m, k, q, o, u, v, w, ab, aa, z, y] <;> omega) | (have hq := y; simp at hq; simp [a, b, e, d, f, g, i, j, m, k, q, o, u, v, w, ab, aa, z, y, hq]; done) | skip
        cases ac : bu
        · rw [ac, if_neg (by simp)] at h
          refine regv_skip (s1 := ?_) ?_ ?_ ?_
          rotate_left
          · simp [a, b, e, d, f, g, i, j, m, k, q, o, u, v, w, ab, aa, z, y, ac]; done
          · simp [a, b, e, d, f, g, i, j, m, k, q, o, u, v, w, ab, aa, z, y, ac]; rfl
          refine regv_skip (s1 := ?_) ?_ ?_ ?_
          rotate_left
          · simp [a, b, e, d, f, g, i, j, m, k, q, o, u, v, w, ab, aa, z, y, ac]; done
          · simp [a, b, e, d, f, g, i, j, m, k, q, o, u, v, w, ab, aa, z, y, ac]; rfl
          refine regv_skip (s1 := ?_) ?_ ?_ ?_
          rotate_left
          · simp [a, b, e, d, f, g, i, j, m, k, q, o, u, v, w, ab, aa, z, y, ac]; done
          · simp [a, b, e, d, f, g, i, j, m, k, q, o, u, v, w, ab, aa, z, y, ac]; rfl
          refine regv_skip (s1 := ?_) ?_ ?_ ?_
          rotate_left
          · simp [a, b, e, d, f, g, i, j, m, k, q, o, u, v, w, ab, aa, z, y, ac]; done
          · simp [a, b, e, d, f, g, i, j, m, k, q, o, u, v, w, ab, aa, z, y, ac]; rfl
          iterate 2
            refine regv_pure (s1 := ?_) rfl rfl ?_ ?_ ?_
            rotate_left
            · simp [a, b, e, d, f, g, i, j, m, k, q, o, u, v, w, ab, aa, z, y, ac]; rfl
            · first | (simp [a, b, e, d, f, g, i, j, m, k, q, o, u, v, w, ab, aa, z, y, ac] <;> omega) | (have hq := ac; simp at hq; simp [a, b, e, d, f, g, i, j, m, k, q, o, u, v, w, ab, aa, z, y, ac, hq]; done) | skip
          refine regv_skip (s1 := ?_) ?_ ?_ ?_
          rotate_left
          · simp [a, b, e, d, f, g, i, j, m, k, q, o, u, v, w, ab, aa, z, y, ac]; done
          · simp [a, b, e, d, f, g, i, j, m, k, q, o, u, v, w, ab, aa, z, y, ac]; rfl
          refine regv_skip (s1 := ?_) ?_ ?_ ?_
          rotate_left
          · simp [a, b, e, d, f, g, i, j, m, k, q, o, u, v, w, ab, aa, z, y, ac]; done
          · simp [a, b, e, d, f, g, i, j, m, k, q, o, u, v, w, ab, aa, z, y, ac]; rfl
          refine regv_skip (s1 := ?_) ?_ ?_ ?_
          rotate_left
          · simp [a, b, e, d, f, g, i, j, m, k, q, o, u, v, w, ab, aa, z, y, ac]; done
          · simp [a, b, e, d, f, g, i, j, m, k, q, o, u, v, w, ab, aa, z, y, ac]; rfl
          refine regv_skip (s1 := ?_) ?_ ?_ ?_
          rotate_left
          · simp [a, b, e, d, f, g, i, j, m, k, q, o, u, v, w, ab, aa, z, y, ac]; done
          · simp [a, b, e, d, f, g, i, j, m, k, q, o, u, v, w, ab, aa, z, y, ac]; rfl
          iterate 2
            refine regv_pure (s1 := ?_) rfl rfl ?_ ?_ ?_
            rotate_left
            · simp [a, b, e, d, f, g, i, j, m, k, q, o, u, v, w, ab, aa, z, y, ac]; rfl
            · first | (simp [a, b, e, d, f, g, i, j, m, k, q, o, u, v, w, ab, aa, z, y, ac] <;> omega) | (have hq := ac; simp at hq; simp [a, b, e, d, f, g, i, j, m, k, q, o, u, v, w, ab, aa, z, y, ac, hq]; done) | skip
          refine regv_skip (s1 := ?_) ?_ ?_ ?_
          rotate_left
          · simp [a, b, e, d, f, g, i, j, m, k, q, o, u, v, w, ab, aa, z, y, ac]; done
          · simp [a, b, e, d, f, g, i, j, m, k, q, o, u, v, w, ab, aa, z, y, ac]; rfl
          refine regv_skip (s1 := ?_) ?_ ?_ ?_
          rotate_left
          · simp [a, b, e, d, f, g, i, j, m, k, q, o, u, v, w, ab, aa, z, y, ac]; done
          · simp [a, b, e, d, f, g, i, j, m, k, q, o, u, v, w, ab, aa, z, y, ac]; rfl
          iterate 2
            refine regv_pure (s1 := ?_) rfl rfl ?_ ?_ ?_
            rotate_left
            · simp [a, b, e, d, f, g, i, j, m, k, q, o, u, v, w, ab, aa, z, y, ac]; rfl
            · first | (simp [a, b, e, d, f, g, i, j, m, k, q, o, u, v, w, ab, aa, z, y, ac] <;> omega) | (have hq := ac; simp at hq; simp [a, b, e, d, f, g, i, j, m, k, q, o, u, v, w, ab, aa, z, y, ac, hq]; done) | skip
          refine regv_skip (s1 := ?_) ?_ ?_ ?_
          rotate_left
          · simp [a, b, e, d, f, g, i, j, m, k, q, o, u, v, w, ab, aa, z, y, ac]; done
          · simp [a, b, e, d, f, g, i, j, m, k, q, o, u, v, w, ab, aa, z, y, ac]; rfl
          refine regv_skip (s1 := ?_) ?_ ?_ ?_
          rotate_left
          · simp [a, b, e, d, f, g, i, j, m, k, q, o, u, v, w, ab, aa, z, y, ac]; done
          · simp [a, b, e, d, f, g, i, j, m, k, q, o, u, v, w, ab, aa, z, y, ac]; rfl
          iterate 2
            refine regv_pure (s1 := ?_) rfl rfl ?_ ?_ ?_
            rotate_left
            · simp [a, b, e, d, f, g, i, j, m, k, q, o, u, v, w, ab, aa, z, y, ac]; rfl
            · first | (simp [a, b, e, d, f, g, i, j, m, k, q, o, u, v, w, ab, aa, z, y, ac] <;> omega) | (have hq := ac; simp at hq; simp [a, b, e, d, f, g, i, j, m, k, q, o, u, v, w, ab, aa, z, y, ac, hq]; done) | skip
          refine regv_skip (s1 := ?_) ?_ ?_ ?_
          rotate_left
          · simp [a, b, e, d, f, g, i, j, m, k, q, o, u, v, w, ab, aa, z, y, ac]; done
          · simp [a, b, e, d, f, g, i, j, m, k, q, o, u, v, w, ab, aa, z, y, ac]; rfl
          refine regv_skip (s1 := ?_) ?_ ?_ ?_
          rotate_left
          · simp [a, b, e, d, f, g, i, j, m, k, q, o, u, v, w, ab, aa, z, y, ac]; done
          · simp [a, b, e, d, f, g, i, j, m, k, q, o, u, v, w, ab, aa, z, y, ac]; rfl
          refine regv_skip (s1 := ?_) ?_ ?_ ?_
          rotate_left
          · simp [a, b, e, d, f, g, i, j, m, k, q, o, u, v, w, ab, aa, z, y, ac]; done
          · simp [a, b, e, d, f, g, i, j, m, k, q, o, u, v, w, ab, aa, z, y, ac]; rfl
          refine regv_skip (s1 := ?_) ?_ ?_ ?_
          rotate_left
          · simp [a, b, e, d, f, g, i, j, m, k, q, o, u, v, w, ab, aa, z, y, ac]; done
          · simp [a, b, e, d, f, g, i, j, m, k, q, o, u, v, w, ab, aa, z, y, ac]; rfl
          iterate 2
            refine regv_pure (s1 := ?_) rfl rfl ?_ ?_ ?_
            rotate_left
            · simp [a, b, e, d, f, g, i, j, m, k, q, o, u, v, w, ab, aa, z, y, ac]; rfl
            · first | (simp [a, b, e, d, f, g, i, j, m, k, q, o, u, v, w, ab, aa, z, y, ac] <;> omega) | (have hq := ac; simp at hq; simp [a, b, e, d, f, g, i, j, m, k, q, o, u, v, w, ab, aa, z, y, ac, hq]; done) | skip
          refine regv_skip (s1 := ?_) ?_ ?_ ?_
          rotate_left
          · simp [a, b, e, d, f, g, i, j, m, k, q, o, u, v, w, ab, aa, z, y, ac]; done
          · simp [a, b, e, d, f, g, i, j, m, k, q, o, u, v, w, ab, aa, z, y, ac]; rfl
          refine regv_skip (s1 := ?_) ?_ ?_ ?_
          rotate_left
          · simp [a, b, e, d, f, g, i, j, m, k, q, o, u, v, w, ab, aa, z, y, ac]; done
          · simp [a, b, e, d, f, g, i, j, m, k, q, o, u, v, w, ab, aa, z, y, ac]; rfl
          refine regv_skip (s1 := ?_) ?_ ?_ ?_
          rotate_left
          · simp [a, b, e, d, f, g, i, j, m, k, q, o, u, v, w, ab, aa, z, y, ac]; done
          · simp [a, b, e, d, f, g, i, j, m, k, q, o, u, v, w, ab, aa, z, y, ac]; rfl
          refine regv_skip (s1 := ?_) ?_ ?_ ?_
          rotate_left
          · simp [a, b, e, d, f, g, i, j, m, k, q, o, u, v, w, ab, aa, z, y, ac]; done
          · simp [a, b, e, d, f, g, i, j, m, k, q, o, u, v, w, ab, aa, z, y, ac]; rfl
          refine regv_skip (s1 := ?_) ?_ ?_ ?_
          rotate_left
          · simp [a, b, e, d, f, g, i, j, m, k, q, o, u, v, w, ab, aa, z, y, ac]; done
          · simp [a, b, e, d, f, g, i, j, m, k, q, o, u, v, w, ab, aa, z, y, ac]; rfl
          iterate 2
            refine regv_pure (s1 := ?_) rfl rfl ?_ ?_ ?_
            rotate_left
            · simp [a, b, e, d, f, g, i, j, m, k, q, o, u, v, w, ab, aa, z, y, ac]; rfl
            · first | (simp [a, b, e, d, f, g, i, j, m, k, q, o, u, v, w, ab, aa, z, y, ac] <;> omega) | (have hq := ac; simp at hq; simp [a, b, e, d, f, g, i, j, m, k, q, o, u, v, w, ab, aa, z, y, ac, hq]; done) | skip
          refine regv_nil ?_
          cases h
          refine Wp.ret (endQ_ret0 rfl ?_)
          repeat' first | exact All2.nil | refine All2.cons ?_ ?_ | refine AvLe.tups ?_ | refine AvLe.aggs ?_
          all_goals first
            | (exact AvLe.refl _ rfl)
            | (exact AvLe.nil _)
            | (exact AvLe.znil _)
            | (exact AvLe.ghost _ rfl)
            | (exact AvLe.zghost _ rfl)
            | (exact AvLe.sl' rfl (by simp [a, b, e, d, f, g, i, j, m, k, q, o, u, v, w, ab, aa, z, y, ac]; done) (by simp [a, b, e, d, f, g, i, j, m, k, q, o, u, v, w, ab, aa, z, y, ac]; done))
            | (exact AvLe.frz' rfl rfl rfl (by simp [a, b, e, d, f, g, i, j, m, k, q, o, u, v, w, ab, aa, z, y, ac]; done) (by simp [a, b, e, d, f, g, i, j, m, k, q, o, u, v, w, ab, aa, z, y, ac]; done) (by simp [a, b, e, d, f, g, i, j, m, k, q, o, u, v, w, ab, aa, z, y, ac]; done))
            | (exact AvLe.list' (by simp [a, b, e, d, f, g, i, j, m, k, q, o, u, v, w, ab, aa, z, y, ac]; done) (by simp [a, b, e, d, f, g, i, j, m, k, q, o, u, v, w, ab, aa, z, y, ac]; done))
            | (exact AvLe.eq (by simp [a, b, e, d, f, g, i, j, m, k, q, o, u, v, w, ab, aa, z, y, ac]; done) rfl)
        · rw [ac, if_pos rfl] at h
          refine regv_pure (s1 := ?_) rfl ?_ ?_ ?_ ?_
          rotate_left
          · simp [a, b, e, d, f, g, i, j, m, k, q, o, u, v, w, ab, aa, z, y, ac]; done
          · simp [a, b, e, d, f, g, i, j, m, k, q, o, u, v, w, ab, aa, z, y, ac]; rfl
          · first | (simp [a, b, e, d, f, g, i, j, m, k, q, o, u, v, w, ab, aa, z, y, ac] <;> omega) | (have hq := ac; simp at hq; simp [a, b, e, d, f, g, i, j, m, k, q, o, u, v, w, ab, aa, z, y, ac, hq]; done) | skip
          refine regv_pure (s1 := ?_) rfl ?_ ?_ ?_ ?_
          rotate_left
          · simp [a, b, e, d, f, g, i, j, m, k, q, o, u, v, w, ab, aa, z, y, ac]; done
          · simp [a, b, e, d, f, g, i, j, m, k, q, o, u, v, w, ab, aa, z, y, ac]; rfl
          · first | (simp [a, b, e, d, f, g, i, j, m, k, q, o, u, v, w, ab, aa, z, y, ac] <;> omega) | (have hq := ac; simp at hq; simp [a, b, e, d, f, g, i, j, m, k, q, o, u, v, w, ab, aa, z, y, ac, hq]; done) | skip
          refine regv_pure (s1 := ?_) rfl ?_ ?_ ?_ ?_
          rotate_left
          · simp [a, b, e, d, f, g, i, j, m, k, q, o, u, v, w, ab, aa, z, y, ac]; done
          · simp [a, b, e, d, f, g, i, j, m, k, q, o, u, v, w, ab, aa, z, y, ac]; rfl
          · first | (simp [a, b, e, d, f, g, i, j, m, k, q, o, u, v, w, ab, aa, z, y, ac] <;> omega) | (have hq := ac; simp at hq; simp [a, b, e, d, f, g, i, j, m, k, q, o, u, v, w, ab, aa, z, y, ac, hq]; done) | skip
          refine regv_pure (s1 := ?_) rfl ?_ ?_ ?_ ?_
          rotate_left
          · simp [a, b, e, d, f, g, i, j, m, k, q, o, u, v, w, ab, aa, z, y, ac]; done
          · simp [a, b, e, d, f, g, i, j, m, k, q, o, u, v, w, ab, aa, z, y, ac]; rfl
          · first | (simp [a, b, e, d, f, g, i, j, m, k, q, o, u, v, w, ab, aa, z, y, ac] <;> omega) | (have hq := ac; simp at hq; simp [a, b, e, d, f, g, i, j, m, k, q, o, u, v, w, ab, aa, z, y, ac, hq]; done) | skip
          iterate 2
            refine regv_pure (s1 := ?_) rfl rfl ?_ ?_ ?_
            rotate_left
            · simp [a, b, e, d, f, g, i, j, m, k, q, o, u, v, w, ab, aa, z, y, ac]; rfl
            · first | (simp [a, b, e, d, f, g, i, j, m, k, q, o, u, v, w, ab, aa, z, y, ac] <;> omega) | (have hq := ac; simp at hq; simp [a, b, e, d, f, g, i, j, m, k, q, o, u, v, w, ab, aa, z, y, ac, hq]; done) | skip
          cases ad : ((bd.E.length : Int) == 1)
          · rw [ad, if_neg (by simp)] at h
            refine regv_skip (s1 := ?_) ?_ ?_ ?_
            rotate_left
            · simp [a, b, e, d, f, g, i, j, m, k, q, o, u, v, w, ab, aa, z, y, ac, ad]; done
            · simp [a, b, e, d, f, g, i, j, m, k, q, o, u, v, w, ab, aa, z, y, ac, ad]; rfl
            refine regv_skip (s1 := ?_) ?_ ?_ ?_
            rotate_left
            · simp [a, b, e, d, f, g, i, j, m, k, q, o, u, v, w, ab, aa, z, y, ac, ad]; done
            · simp [a, b, e, d, f, g, i, j, m, k, q, o, u, v, w, ab, aa, z, y, ac, ad]; rfl
            refine regv_skip (s1 := ?_) ?_ ?_ ?_
            rotate_left
            · simp [a, b, e, d, f, g, i, j, m, k, q, o, u, v, w, ab, aa, z, y, ac, ad]; done
            · simp [a, b, e, d, f, g, i, j, m, k, q, o, u, v, w, ab, aa, z, y, ac, ad]; rfl
            refine regv_skip (s1 := ?_) ?_ ?_ ?_
            rotate_left
            · simp [a, b, e, d, f, g, i, j, m, k, q, o, u, v, w, ab, aa, z, y, ac, ad]; done
            · simp [a, b, e, d, f, g, i, j, m, k, q, o, u, v, w, ab, aa, z, y, ac, ad]; rfl
            iterate 2
              refine regv_pure (s1 := ?_) rfl rfl ?_ ?_ ?_
              rotate_left
              · simp [a, b, e, d, f, g, i, j, m, k, q, o, u, v, w, ab, aa, z, y, ac, ad]; rfl
              · first | (simp [a, b, e, d, f, g, i, j, m, k, q, o, u, v, w, ab, aa, z, y, ac, ad] <;> omega) | (have hq := ad; simp at hq; simp [a, b, e, d, f, g, i, j, m, k, q, o, u, v, w, ab, aa, z, y, ac, ad, hq]; done) | skip
            refine regv_skip (s1 := ?_) ?_ ?_ ?_
            rotate_left
            · simp [a, b, e, d, f, g, i, j, m, k, q, o, u, v, w, ab, aa, z, y, ac, ad]; done
            · simp [a, b, e, d, f, g, i, j, m, k, q, o, u, v, w, ab, aa, z, y, ac, ad]; rfl
            refine regv_skip (s1 := ?_) ?_ ?_ ?_
            rotate_left
            · simp [a, b, e, d, f, g, i, j, m, k, q, o, u, v, w, ab, aa, z, y, ac, ad]; done
            · simp [a, b, e, d, f, g, i, j, m, k, q, o, u, v, w, ab, aa, z, y, ac, ad]; rfl
            iterate 2
              refine regv_pure (s1 := ?_) rfl rfl ?_ ?_ ?_
              rotate_left
              · simp [a, b, e, d, f, g, i, j, m, k, q, o, u, v, w, ab, aa, z, y, ac, ad]; rfl
              · first | (simp [a, b, e, d, f, g, i, j, m, k, q, o, u, v, w, ab, aa, z, y, ac, ad] <;> omega) | (have hq := ad; simp at hq; simp [a, b, e, d, f, g, i, j, m, k, q, o, u, v, w, ab, aa, z, y, ac, ad, hq]; done) | skip
            refine regv_skip (s1 := ?_) ?_ ?_ ?_
            rotate_left
            · simp [a, b, e, d, f, g, i, j, m, k, q, o, u, v, w, ab, aa, z, y, ac, ad]; done
            · simp [a, b, e, d, f, g, i, j, m, k, q, o, u, v, w, ab, aa, z, y, ac, ad]; rfl
            refine regv_skip (s1 := ?_) ?_ ?_ ?_
            rotate_left
            · simp [a, b, e, d, f, g, i, j, m, k, q, o, u, v, w, ab, aa, z, y, ac, ad]; done
            · simp [a, b, e, d, f, g, i, j, m, k, q, o, u, v, w, ab, aa, z, y, ac, ad]; rfl
            iterate 2
              refine regv_pure (s1 := ?_) rfl rfl ?_ ?_ ?_
              rotate_left
              · simp [a, b, e, d, f, g, i, j, m, k, q, o, u, v, w, ab, aa, z, y, ac, ad]; rfl
              · first | (simp [a, b, e, d, f, g, i, j, m, k, q, o, u, v, w, ab, aa, z, y, ac, ad] <;> omega) | (have hq := ad; simp at hq; simp [a, b, e, d, f, g, i, j, m, k, q, o, u, v, w, ab, aa, z, y, ac, ad, hq]; done) | skip
            refine regv_skip (s1 := ?_) ?_ ?_ ?_
            rotate_left
            · simp [a, b, e, d, f, g, i, j, m, k, q, o, u, v, w, ab, aa, z, y, ac, ad]; done
            · simp [a, b, e, d, f, g, i, j, m, k, q, o, u, v, w, ab, aa, z, y, ac, ad]; rfl
            refine regv_skip (s1 := ?_) ?_ ?_ ?_
            rotate_left
            · simp [a, b, e, d, f, g, i, j, m, k, q, o, u, v, w, ab, aa, z, y, ac, ad]; done
            · simp [a, b, e, d, f, g, i, j, m, k, q, o, u, v, w, ab, aa, z, y, ac, ad]; rfl
            refine regv_skip (s1 := ?_) ?_ ?_ ?_
            rotate_left
            · simp [a, b, e, d, f, g, i, j, m, k, q, o, u, v, w, ab, aa, z, y, ac, ad]; done
            · simp [a, b, e, d, f, g, i, j, m, k, q, o, u, v, w, ab, aa, z, y, ac, ad]; rfl
            refine regv_skip (s1 := ?_) ?_ ?_ ?_
            rotate_left
            · simp [a, b, e, d, f, g, i, j, m, k, q, o, u, v, w, ab, aa, z, y, ac, ad]; done
            · simp [a, b, e, d, f, g, i, j, m, k, q, o, u, v, w, ab, aa, z, y, ac, ad]; rfl
            iterate 2
              refine regv_pure (s1 := ?_) rfl rfl ?_ ?_ ?_
              rotate_left
              · simp [a, b, e, d, f, g, i, j, m, k, q, o, u, v, w, ab, aa, z, y, ac, ad]; rfl
              · first | (simp [a, b, e, d, f, g, i, j, m, k, q, o, u, v, w, ab, aa, z, y, ac, ad] <;> omega) | (have hq := ad; simp at hq; simp [a, b, e, d, f, g, i, j, m, k, q, o, u, v, w, ab, aa, z, y, ac, ad, hq]; done) | skip
            refine regv_skip (s1 := ?_) ?_ ?_ ?_
            rotate_left
            · simp [a, b, e, d, f, g, i, j, m, k, q, o, u, v, w, ab, aa, z, y, ac, ad]; done
            · simp [a, b, e, d, f, g, i, j, m, k, q, o, u, v, w, ab, aa, z, y, ac, ad]; rfl
            refine regv_skip (s1 := ?_) ?_ ?_ ?_
            rotate_left
            · simp [a, b, e, d, f, g, i, j, m, k, q, o, u, v, w, ab, aa, z, y, ac, ad]; done
            · simp [a, b, e, d, f, g, i, j, m, k, q, o, u, v, w, ab, aa, z, y, ac, ad]; rfl
            refine regv_skip (s1 := ?_) ?_ ?_ ?_
            rotate_left
            · simp [a, b, e, d, f, g, i, j, m, k, q, o, u, v, w, ab, aa, z, y, ac, ad]; done
            · simp [a, b, e, d, f, g, i, j, m, k, q, o, u, v, w, ab, aa, z, y, ac, ad]; rfl
            refine regv_skip (s1 := ?_) ?_ ?_ ?_
            rotate_left
            · simp [a, b, e, d, f, g, i, j, m, k, q, o, u, v, w, ab, aa, z, y, ac, ad]; done
            · simp [a, b, e, d, f, g, i, j, m, k, q, o, u, v, w, ab, aa, z, y, ac, ad]; rfl
            refine regv_skip (s1 := ?_) ?_ ?_ ?_
            rotate_left
            · simp [a, b, e, d, f, g, i, j, m, k, q, o, u, v, w, ab, aa, z, y, ac, ad]; done
            · simp [a, b, e, d, f, g, i, j, m, k, q, o, u, v, w, ab, aa, z, y, ac, ad]; rfl
            iterate 2
              refine regv_pure (s1 := ?_) rfl rfl ?_ ?_ ?_
              rotate_left
              · simp [a, b, e, d, f, g, i, j, m, k, q, o, u, v, w, ab, aa, z, y, ac, ad]; rfl
              · first | (simp [a, b, e, d, f, g, i, j, m, k, q, o, u, v, w, ab, aa, z, y, ac, ad] <;> omega) | (have hq := ad; simp at hq; simp [a, b, e, d, f, g, i, j, m, k, q, o, u, v, w, ab, aa, z, y, ac, ad, hq]; done) | skip
            refine regv_nil ?_
            cases h
            refine Wp.ret (endQ_ret0 rfl ?_)
            repeat' first | exact All2.nil | refine All2.cons ?_ ?_ | refine AvLe.tups ?_ | refine AvLe.aggs ?_
            all_goals first
              | (exact AvLe.refl _ rfl)
              | (exact AvLe.nil _)
              | (exact AvLe.znil _)
              | (exact AvLe.ghost _ rfl)
              | (exact AvLe.zghost _ rfl)
              | (exact AvLe.sl' rfl (by simp [a, b, e, d, f, g, i, j, m, k, q, o, u, v, w, ab, aa, z, y, ac, ad]; done) (by simp [a, b, e, d, f, g, i, j, m, k, q, o, u, v, w, ab, aa, z, y, ac, ad]; done))
              | (exact AvLe.frz' rfl rfl rfl (by simp [a, b, e, d, f, g, i, j, m, k, q, o, u, v, w, ab, aa, z, y, ac, ad]; done) (by simp [a, b, e, d, f, g, i, j, m, k, q, o, u, v, w, ab, aa, z, y, ac, ad]; done) (by simp [a, b, e, d, f, g, i, j, m, k, q, o, u, v, w, ab, aa, z, y, ac, ad]; done))
              | (exact AvLe.list' (by simp [a, b, e, d, f, g, i, j, m, k, q, o, u, v, w, ab, aa, z, y, ac, ad]; done) (by simp [a, b, e, d, f, g, i, j, m, k, q, o, u, v, w, ab, aa, z, y, ac, ad]; done))
              | (exact AvLe.eq (by simp [a, b, e, d, f, g, i, j, m, k, q, o, u, v, w, ab, aa, z, y, ac, ad]; done) rfl)
          · rw [ad, if_pos rfl] at h
            refine regv_pure (s1 := ?_) rfl ?_ ?_ ?_ ?_
            rotate_left
            · simp [a, b, e, d, f, g, i, j, m, k, q, o, u, v, w, ab, aa, z, y, ac, ad]; done
            · simp [a, b, e, d, f, g, i, j, m, k, q, o, u, v, w, ab, aa, z, y, ac, ad]; rfl
            · first | (simp [a, b, e, d, f, g, i, j, m, k, q, o, u, v, w, ab, aa, z, y, ac, ad] <;> omega) | (have hq := ad; simp at hq; simp [a, b, e, d, f, g, i, j, m, k, q, o, u, v, w, ab, aa, z, y, ac, ad, hq]; done) | skip
            refine regv_pure (s1 := ?_) rfl ?_ ?_ ?_ ?_
            rotate_left
            · simp [a, b, e, d, f, g, i, j, m, k, q, o, u, v, w, ab, aa, z, y, ac, ad]; done
            · simp [a, b, e, d, f, g, i, j, m, k, q, o, u, v, w, ab, aa, z, y, ac, ad]; rfl
            · first | (simp [a, b, e, d, f, g, i, j, m, k, q, o, u, v, w, ab, aa, z, y, ac, ad] <;> omega) | (have hq := ad; simp at hq; simp [a, b, e, d, f, g, i, j, m, k, q, o, u, v, w, ab, aa, z, y, ac, ad, hq]; done) | skip
            obtain ⟨bv, bi, h⟩ := obind h
            obtain ⟨ai, ag, af⟩ := atI_some bi
            try simp [a, b, e, d, f, g, i, j, m, k, q, o, u, v, w, ab, aa, z, y, ac, ad] at ag
            try simp only [Int.toNat_natCast, Int.reduceToNat, Nat.zero_add, Nat.add_zero] at af
            have ae := getElem_of af
            refine regv_pure (s1 := ?_) rfl ?_ ?_ ?_ ?_
            rotate_left
            · simp [a, b, e, d, f, g, i, j, m, k, q, o, u, v, w, ab, aa, z, y, ac, ad, ai, ag, af, ae]; done
            · simp [a, b, e, d, f, g, i, j, m, k, q, o, u, v, w, ab, aa, z, y, ac, ad, ai, ag, af, ae]; rfl
            · first | (simp [a, b, e, d, f, g, i, j, m, k, q, o, u, v, w, ab, aa, z, y, ac, ad, ai, ag, af, ae] <;> omega) | (have hq := ae; simp at hq; simp [a, b, e, d, f, g, i, j, m, k, q, o, u, v, w, ab, aa, z, y, ac, ad, ai, ag, af, ae, hq]; done) | skip
            refine regv_pure (s1 := ?_) rfl ?_ ?_ ?_ ?_
            rotate_left
            · simp [a, b, e, d, f, g, i, j, m, k, q, o, u, v, w, ab, aa, z, y, ac, ad, ai, ag, af, ae]; done
            · simp [a, b, e, d, f, g, i, j, m, k, q, o, u, v, w, ab, aa, z, y, ac, ad, ai, ag, af, ae]; rfl
            · first | (simp [a, b, e, d, f, g, i, j, m, k, q, o, u, v, w, ab, aa, z, y, ac, ad, ai, ag, af, ae] <;> omega) | (have hq := ae; simp at hq; simp [a, b, e, d, f, g, i, j, m, k, q, o, u, v, w, ab, aa, z, y, ac, ad, ai, ag, af, ae, hq]; done) | skip
            iterate 2
              refine regv_pure (s1 := ?_) rfl rfl ?_ ?_ ?_
              rotate_left
              · simp [a, b, e, d, f, g, i, j, m, k, q, o, u, v, w, ab, aa, z, y, ac, ad, ai, ag, af, ae]; rfl
              · first | (simp [a, b, e, d, f, g, i, j, m, k, q, o, u, v, w, ab, aa, z, y, ac, ad, ai, ag, af, ae] <;> omega) | (have hq := ae; simp at hq; simp [a, b, e, d, f, g, i, j, m, k, q, o, u, v, w, ab, aa, z, y, ac, ad, ai, ag, af, ae, hq]; done) | skip
            cases aj : bv
            · rw [aj, if_neg (by simp)] at h
              refine regv_skip (s1 := ?_) ?_ ?_ ?_
              rotate_left
              · simp [a, b, e, d, f, g, i, j, m, k, q, o, u, v, w, ab, aa, z, y, ac, ad, ai, ag, af, ae, aj]; done
              · simp [a, b, e, d, f, g, i, j, m, k, q, o, u, v, w, ab, aa, z, y, ac, ad, ai, ag, af, ae, aj]; rfl
              refine regv_skip (s1 := ?_) ?_ ?_ ?_
              rotate_left
              · simp [a, b, e, d, f, g, i, j, m, k, q, o, u, v, w, ab, aa, z, y, ac, ad, ai, ag, af, ae, aj]; done
              · simp [a, b, e, d, f, g, i, j, m, k, q, o, u, v, w, ab, aa, z, y, ac, ad, ai, ag, af, ae, aj]; rfl
              iterate 2
                refine regv_pure (s1 := ?_) rfl rfl ?_ ?_ ?_
                rotate_left
                · simp [a, b, e, d, f, g, i, j, m, k, q, o, u, v, w, ab, aa, z, y, ac, ad, ai, ag, af, ae, aj]; rfl
                · first | (simp [a, b, e, d, f, g, i, j, m, k, q, o, u, v, w, ab, aa, z, y, ac, ad, ai, ag, af, ae, aj] <;> omega) | (have hq := aj; simp at hq; simp [a, b, e, d, f, g, i, j, m, k, q, o, u, v, w, ab, aa, z, y, ac, ad, ai, ag, af, ae, aj, hq]; done) | skip
              refine regv_skip (s1 := ?_) ?_ ?_ ?_
              rotate_left
              · simp [a, b, e, d, f, g, i, j, m, k, q, o, u, v, w, ab, aa, z, y, ac, ad, ai, ag, af, ae, aj]; done
              · simp [a, b, e, d, f, g, i, j, m, k, q, o, u, v, w, ab, aa, z, y, ac, ad, ai, ag, af, ae, aj]; rfl
              refine regv_skip (s1 := ?_) ?_ ?_ ?_
              rotate_left
              · simp [a, b, e, d, f, g, i, j, m, k, q, o, u, v, w, ab, aa, z, y, ac, ad, ai, ag, af, ae, aj]; done
              · simp [a, b, e, d, f, g, i, j, m, k, q, o, u, v, w, ab, aa, z, y, ac, ad, ai, ag, af, ae, aj]; rfl
              iterate 2
                refine regv_pure (s1 := ?_) rfl rfl ?_ ?_ ?_
                rotate_left
                · simp [a, b, e, d, f, g, i, j, m, k, q, o, u, v, w, ab, aa, z, y, ac, ad, ai, ag, af, ae, aj]; rfl
                · first | (simp [a, b, e, d, f, g, i, j, m, k, q, o, u, v, w, ab, aa, z, y, ac, ad, ai, ag, af, ae, aj] <;> omega) | (have hq := aj; simp at hq; simp [a, b, e, d, f, g, i, j, m, k, q, o, u, v, w, ab, aa, z, y, ac, ad, ai, ag, af, ae, aj, hq]; done) | skip
              refine regv_skip (s1 := ?_) ?_ ?_ ?_
              rotate_left
              · simp [a, b, e, d, f, g, i, j, m, k, q, o, u, v, w, ab, aa, z, y, ac, ad, ai, ag, af, ae, aj]; done
              · simp [a, b, e, d, f, g, i, j, m, k, q, o, u, v, w, ab, aa, z, y, ac, ad, ai, ag, af, ae, aj]; rfl
              refine regv_skip (s1 := ?_) ?_ ?_ ?_
              rotate_left
              · simp [a, b, e, d, f, g, i, j, m, k, q, o, u, v, w, ab, aa, z, y, ac, ad, ai, ag, af, ae, aj]; done
              · simp [a, b, e, d, f, g, i, j, m, k, q, o, u, v, w, ab, aa, z, y, ac, ad, ai, ag, af, ae, aj]; rfl
              refine regv_skip (s1 := ?_) ?_ ?_ ?_
              rotate_left
              · simp [a, b, e, d, f, g, i, j, m, k, q, o, u, v, w, ab, aa, z, y, ac, ad, ai, ag, af, ae, aj]; done
              · simp [a, b, e, d, f, g, i, j, m, k, q, o, u, v, w, ab, aa, z, y, ac, ad, ai, ag, af, ae, aj]; rfl
              refine regv_skip (s1 := ?_) ?_ ?_ ?_
              rotate_left
              · simp [a, b, e, d, f, g, i, j, m, k, q, o, u, v, w, ab, aa, z, y, ac, ad, ai, ag, af, ae, aj]; done
              · simp [a, b, e, d, f, g, i, j, m, k, q, o, u, v, w, ab, aa, z, y, ac, ad, ai, ag, af, ae, aj]; rfl
              iterate 2
                refine regv_pure (s1 := ?_) rfl rfl ?_ ?_ ?_
                rotate_left
                · simp [a, b, e, d, f, g, i, j, m, k, q, o, u, v, w, ab, aa, z, y, ac, ad, ai, ag, af, ae, aj]; rfl
                · first | (simp [a, b, e, d, f, g, i, j, m, k, q, o, u, v, w, ab, aa, z, y, ac, ad, ai, ag, af, ae, aj] <;> omega) | (have hq := aj; simp at hq; simp [a, b, e, d, f, g, i, j, m, k, q, o, u, v, w, ab, aa, z, y, ac, ad, ai, ag, af, ae, aj, hq]; done) | skip
              refine regv_skip (s1 := ?_) ?_ ?_ ?_
              rotate_left
              · simp [a, b, e, d, f, g, i, j, m, k, q, o, u, v, w, ab, aa, z, y, ac, ad, ai, ag, af, ae, aj]; done
              · simp [a, b, e, d, f, g, i, j, m, k, q, o, u, v, w, ab, aa, z, y, ac, ad, ai, ag, af, ae, aj]; rfl
              refine regv_skip (s1 := ?_) ?_ ?_ ?_
              rotate_left
              · simp [a, b, e, d, f, g, i, j, m, k, q, o, u, v, w, ab, aa, z, y, ac, ad, ai, ag, af, ae, aj]; done
              · simp [a, b, e, d, f, g, i, j, m, k, q, o, u, v, w, ab, aa, z, y, ac, ad, ai, ag, af, ae, aj]; rfl
              refine regv_skip (s1 := ?_) ?_ ?_ ?_
              rotate_left
              · simp [a, b, e, d, f, g, i, j, m, k, q, o, u, v, w, ab, aa, z, y, ac, ad, ai, ag, af, ae, aj]; done
              · simp [a, b, e, d, f, g, i, j, m, k, q, o, u, v, w, ab, aa, z, y, ac, ad, ai, ag, af, ae, aj]; rfl
              refine regv_skip (s1 := ?_) ?_ ?_ ?_
              rotate_left
              · simp [a, b, e, d, f, g, i, j, m, k, q, o, u, v, w, ab, aa, z, y, ac, ad, ai, ag, af, ae, aj]; done
              · simp [a, b, e, d, f, g, i, j, m, k, q, o, u, v, w, ab, aa, z, y, ac, ad, ai, ag, af, ae, aj]; rfl
              refine regv_skip (s1 := ?_) ?_ ?_ ?_
              rotate_left
              · simp [a, b, e, d, f, g, i, j, m, k, q, o, u, v, w, ab, aa, z, y, ac, ad, ai, ag, af, ae, aj]; done
              · simp [a, b, e, d, f, g, i, j, m, k, q, o, u, v, w, ab, aa, z, y, ac, ad, ai, ag, af, ae, aj]; rfl
              iterate 2
                refine regv_pure (s1 := ?_) rfl rfl ?_ ?_ ?_
                rotate_left
                · simp [a, b, e, d, f, g, i, j, m, k, q, o, u, v, w, ab, aa, z, y, ac, ad, ai, ag, af, ae, aj]; rfl
                · first | (simp [a, b, e, d, f, g, i, j, m, k, q, o, u, v, w, ab, aa, z, y, ac, ad, ai, ag, af, ae, aj] <;> omega) | (have hq := aj; simp at hq; simp [a, b, e, d, f, g, i, j, m, k, q, o, u, v, w, ab, aa, z, y, ac, ad, ai, ag, af, ae, aj, hq]; done) | skip
              refine regv_nil ?_
              cases h
              refine Wp.ret (endQ_ret0 rfl ?_)
              repeat' first | exact All2.nil | refine All2.cons ?_ ?_ | refine AvLe.tups ?_ | refine AvLe.aggs ?_
              all_goals first
                | (exact AvLe.refl _ rfl)
                | (exact AvLe.nil _)
                | (exact AvLe.znil _)
                | (exact AvLe.ghost _ rfl)
                | (exact AvLe.zghost _ rfl)
                | (exact AvLe.sl' rfl (by simp [a, b, e, d, f, g, i, j, m, k, q, o, u, v, w, ab, aa, z, y, ac, ad, ai, ag, af, ae, aj]; done) (by simp [a, b, e, d, f, g, i, j, m, k, q, o, u, v, w, ab, aa, z, y, ac, ad, ai, ag, af, ae, aj]; done))
                | (exact AvLe.frz' rfl rfl rfl (by simp [a, b, e, d, f, g, i, j, m, k, q, o, u, v, w, ab, aa, z, y, ac, ad, ai, ag, af, ae, aj]; done) (by simp [a, b, e, d, f, g, i, j, m, k, q, o, u, v, w, ab, aa, z, y, ac, ad, ai, ag, af, ae, aj]; done) (by simp [a, b, e, d, f, g, i, j, m, k, q, o, u, v, w, ab, aa, z, y, ac, ad, ai, ag, af, ae, aj]; done))
                | (exact AvLe.list' (by simp [a, b, e, d, f, g, i, j, m, k, q, o, u, v, w, ab, aa, z, y, ac, ad, ai, ag, af, ae, aj]; done) (by simp [a, b, e, d, f, g, i, j, m, k, q, o, u, v, w, ab, aa, z, y, ac, ad, ai, ag, af, ae, aj]; done))
                | (exact AvLe.eq (by simp [a, b, e, d, f, g, i, j, m, k, q, o, u, v, w, ab, aa, z, y, ac, ad, ai, ag, af, ae, aj]; done) rfl)
            · rw [aj, if_pos rfl] at h
              refine regv_pure (s1 := ?_) rfl ?_ ?_ ?_ ?_
              rotate_left
              · simp [a, b, e, d, f, g, i, j, m, k, q, o, u, v, w, ab, aa, z, y, ac, ad, ai, ag, af, ae, aj]; done
              · simp [a, b, e, d, f, g, i, j, m, k, q, o, u, v, w, ab, aa, z, y, ac, ad, ai, ag, af, ae, aj]; rfl
              · first | (simp [a, b, e, d, f, g, i, j, m, k, q, o, u, v, w, ab, aa, z, y, ac, ad, ai, ag, af, ae, aj] <;> omega) | (have hq := aj; simp at hq; simp [a, b, e, d, f, g, i, j, m, k, q, o, u, v, w, ab, aa, z, y, ac, ad, ai, ag, af, ae, aj, hq]; done) | skip
              refine regv_pure (s1 := ?_) rfl ?_ ?_ ?_ ?_
              rotate_left
              · simp [a, b, e, d, f, g, i, j, m, k, q, o, u, v, w, ab, aa, z, y, ac, ad, ai, ag, af, ae, aj]; done
              · simp [a, b, e, d, f, g, i, j, m, k, q, o, u, v, w, ab, aa, z, y, ac, ad, ai, ag, af, ae, aj]; rfl
              · first | (simp [a, b, e, d, f, g, i, j, m, k, q, o, u, v, w, ab, aa, z, y, ac, ad, ai, ag, af, ae, aj] <;> omega) | (have hq := aj; simp at hq; simp [a, b, e, d, f, g, i, j, m, k, q, o, u, v, w, ab, aa, z, y, ac, ad, ai, ag, af, ae, aj, hq]; done) | skip
              iterate 2
                refine regv_pure (s1 := ?_) rfl rfl ?_ ?_ ?_
                rotate_left
                · simp [a, b, e, d, f, g, i, j, m, k, q, o, u, v, w, ab, aa, z, y, ac, ad, ai, ag, af, ae, aj]; rfl
                · first | (simp [a, b, e, d, f, g, i, j, m, k, q, o, u, v, w, ab, aa, z, y, ac, ad, ai, ag, af, ae, aj] <;> omega) | (have hq := aj; simp at hq; simp [a, b, e, d, f, g, i, j, m, k, q, o, u, v, w, ab, aa, z, y, ac, ad, ai, ag, af, ae, aj, hq]; done) | skip
              cases ak : (bq == 0)
              · rw [ak, if_neg (by simp)] at h
                refine regv_skip (s1 := ?_) ?_ ?_ ?_
                rotate_left
                · simp [a, b, e, d, f, g, i, j, m, k, q, o, u, v, w, ab, aa, z, y, ac, ad, ai, ag, af, ae, aj, ak]; done
                · simp [a, b, e, d, f, g, i, j, m, k, q, o, u, v, w, ab, aa, z, y, ac, ad, ai, ag, af, ae, aj, ak]; rfl
                refine regv_skip (s1 := ?_) ?_ ?_ ?_
                rotate_left
                · simp [a, b, e, d, f, g, i, j, m, k, q, o, u, v, w, ab, aa, z, y, ac, ad, ai, ag, af, ae, aj, ak]; done
                · simp [a, b, e, d, f, g, i, j, m, k, q, o, u, v, w, ab, aa, z, y, ac, ad, ai, ag, af, ae, aj, ak]; rfl
                iterate 2
                  refine regv_pure (s1 := ?_) rfl rfl ?_ ?_ ?_
                  rotate_left
                  · simp [a, b, e, d, f, g, i, j, m, k, q, o, u, v, w, ab, aa, z, y, ac, ad, ai, ag, af, ae, aj, ak]; rfl
                  · first | (simp [a, b, e, d, f, g, i, j, m, k, q, o, u, v, w, ab, aa, z, y, ac, ad, ai, ag, af, ae, aj, ak] <;> omega) | (have hq := ak; simp at hq; simp [a, b, e, d, f, g, i, j, m, k, q, o, u, v, w, ab, aa, z, y, ac, ad, ai, ag, af, ae, aj, ak, hq]; done) | skip
                refine regv_skip (s1 := ?_) ?_ ?_ ?_
                rotate_left
                · simp [a, b, e, d, f, g, i, j, m, k, q, o, u, v, w, ab, aa, z, y, ac, ad, ai, ag, af, ae, aj, ak]; done
                · simp [a, b, e, d, f, g, i, j, m, k, q, o, u, v, w, ab, aa, z, y, ac, ad, ai, ag, af, ae, aj, ak]; rfl
                refine regv_skip (s1 := ?_) ?_ ?_ ?_
                rotate_left
                · simp [a, b, e, d, f, g, i, j, m, k, q, o, u, v, w, ab, aa, z, y, ac, ad, ai, ag, af, ae, aj, ak]; done
                · simp [a, b, e, d, f, g, i, j, m, k, q, o, u, v, w, ab, aa, z, y, ac, ad, ai, ag, af, ae, aj, ak]; rfl
                refine regv_skip (s1 := ?_) ?_ ?_ ?_
                rotate_left
                · simp [a, b, e, d, f, g, i, j, m, k, q, o, u, v, w, ab, aa, z, y, ac, ad, ai, ag, af, ae, aj, ak]; done
                · simp [a, b, e, d, f, g, i, j, m, k, q, o, u, v, w, ab, aa, z, y, ac, ad, ai, ag, af, ae, aj, ak]; rfl
                refine regv_skip (s1 := ?_) ?_ ?_ ?_
                rotate_left
                · simp [a, b, e, d, f, g, i, j, m, k, q, o, u, v, w, ab, aa, z, y, ac, ad, ai, ag, af, ae, aj, ak]; done
                · simp [a, b, e, d, f, g, i, j, m, k, q, o, u, v, w, ab, aa, z, y, ac, ad, ai, ag, af, ae, aj, ak]; rfl
                iterate 2
                  refine regv_pure (s1 := ?_) rfl rfl ?_ ?_ ?_
                  rotate_left
                  · simp [a, b, e, d, f, g, i, j, m, k, q, o, u, v, w, ab, aa, z, y, ac, ad, ai, ag, af, ae, aj, ak]; rfl
                  · first | (simp [a, b, e, d, f, g, i, j, m, k, q, o, u, v, w, ab, aa, z, y, ac, ad, ai, ag, af, ae, aj, ak] <;> omega) | (have hq := ak; simp at hq; simp [a, b, e, d, f, g, i, j, m, k, q, o, u, v, w, ab, aa, z, y, ac, ad, ai, ag, af, ae, aj, ak, hq]; done) | skip
                refine regv_skip (s1 := ?_) ?_ ?_ ?_
                rotate_left
                · simp [a, b, e, d, f, g, i, j, m, k, q, o, u, v, w, ab, aa, z, y, ac, ad, ai, ag, af, ae, aj, ak]; done
                · simp [a, b, e, d, f, g, i, j, m, k, q, o, u, v, w, ab, aa, z, y, ac, ad, ai, ag, af, ae, aj, ak]; rfl
                refine regv_skip (s1 := ?_) ?_ ?_ ?_
                rotate_left
                · simp [a, b, e, d, f, g, i, j, m, k, q, o, u, v, w, ab, aa, z, y, ac, ad, ai, ag, af, ae, aj, ak]; done
                · simp [a, b, e, d, f, g, i, j, m, k, q, o, u, v, w, ab, aa, z, y, ac, ad, ai, ag, af, ae, aj, ak]; rfl
                refine regv_skip (s1 := ?_) ?_ ?_ ?_
                rotate_left
                · simp [a, b, e, d, f, g, i, j, m, k, q, o, u, v, w, ab, aa, z, y, ac, ad, ai, ag, af, ae, aj, ak]; done
                · simp [a, b, e, d, f, g, i, j, m, k, q, o, u, v, w, ab, aa, z, y, ac, ad, ai, ag, af, ae, aj, ak]; rfl
                refine regv_skip (s1 := ?_) ?_ ?_ ?_
                rotate_left
                · simp [a, b, e, d, f, g, i, j, m, k, q, o, u, v, w, ab, aa, z, y, ac, ad, ai, ag, af, ae, aj, ak]; done
                · simp [a, b, e, d, f, g, i, j, m, k, q, o, u, v, w, ab, aa, z, y, ac, ad, ai, ag, af, ae, aj, ak]; rfl
                refine regv_skip (s1 := ?_) ?_ ?_ ?_
                rotate_left
                · simp [a, b, e, d, f, g, i, j, m, k, q, o, u, v, w, ab, aa, z, y, ac, ad, ai, ag, af, ae, aj, ak]; done
                · simp [a, b, e, d, f, g, i, j, m, k, q, o, u, v, w, ab, aa, z, y, ac, ad, ai, ag, af, ae, aj, ak]; rfl
                iterate 2
                  refine regv_pure (s1 := ?_) rfl rfl ?_ ?_ ?_
                  rotate_left
                  · simp [a, b, e, d, f, g, i, j, m, k, q, o, u, v, w, ab, aa, z, y, ac, ad, ai, ag, af, ae, aj, ak]; rfl
                  · first | (simp [a, b, e, d, f, g, i, j, m, k, q, o, u, v, w, ab, aa, z, y, ac, ad, ai, ag, af, ae, aj, ak] <;> omega) | (have hq := ak; simp at hq; simp [a, b, e, d, f, g, i, j, m, k, q, o, u, v, w, ab, aa, z, y, ac, ad, ai, ag, af, ae, aj, ak, hq]; done) | skip
                refine regv_nil ?_
                cases h
                refine Wp.ret (endQ_ret0 rfl ?_)
                repeat' first | exact All2.nil | refine All2.cons ?_ ?_ | refine AvLe.tups ?_ | refine AvLe.aggs ?_
                all_goals first
                  | (exact AvLe.refl _ rfl)
                  | (exact AvLe.nil _)
                  | (exact AvLe.znil _)
                  | (exact AvLe.ghost _ rfl)
                  | (exact AvLe.zghost _ rfl)
                  | (exact AvLe.sl' rfl (by simp [a, b, e, d, f, g, i, j, m, k, q, o, u, v, w, ab, aa, z, y, ac, ad, ai, ag, af, ae, aj, ak]; done) (by simp [a, b, e, d, f, g, i, j, m, k, q, o, u, v, w, ab, aa, z, y, ac, ad, ai, ag, af, ae, aj, ak]; done))
                  | (exact AvLe.frz' rfl rfl rfl (by simp [a, b, e, d, f, g, i, j, m, k, q, o, u, v, w, ab, aa, z, y, ac, ad, ai, ag, af, ae, aj, ak]; done) (by simp [a, b, e, d, f, g, i, j, m, k, q, o, u, v, w, ab, aa, z, y, ac, ad, ai, ag, af, ae, aj, ak]; done) (by simp [a, b, e, d, f, g, i, j, m, k, q, o, u, v, w, ab, aa, z, y, ac, ad, ai, ag, af, ae, aj, ak]; done))
                  | (exact AvLe.list' (by simp [a, b, e, d, f, g, i, j, m, k, q, o, u, v, w, ab, aa, z, y, ac, ad, ai, ag, af, ae, aj, ak]; done) (by simp [a, b, e, d, f, g, i, j, m, k, q, o, u, v, w, ab, aa, z, y, ac, ad, ai, ag, af, ae, aj, ak]; done))
                  | (exact AvLe.eq (by simp [a, b, e, d, f, g, i, j, m, k, q, o, u, v, w, ab, aa, z, y, ac, ad, ai, ag, af, ae, aj, ak]; done) rfl)
              · rw [ak, if_pos rfl] at h
                refine regv_pure (s1 := ?_) rfl ?_ ?_ ?_ ?_
                rotate_left
                · simp [a, b, e, d, f, g, i, j, m, k, q, o, u, v, w, ab, aa, z, y, ac, ad, ai, ag, af, ae, aj, ak]; done
                · simp [a, b, e, d, f, g, i, j, m, k, q, o, u, v, w, ab, aa, z, y, ac, ad, ai, ag, af, ae, aj, ak]; rfl
                · first | (simp [a, b, e, d, f, g, i, j, m, k, q, o, u, v, w, ab, aa, z, y, ac, ad, ai, ag, af, ae, aj, ak] <;> omega) | (have hq := ak; simp at hq; simp [a, b, e, d, f, g, i, j, m, k, q, o, u, v, w, ab, aa, z, y, ac, ad, ai, ag, af, ae, aj, ak, hq]; done) | skip
                refine regv_pure (s1 := ?_) rfl ?_ ?_ ?_ ?_
                rotate_left
                · simp [a, b, e, d, f, g, i, j, m, k, q, o, u, v, w, ab, aa, z, y, ac, ad, ai, ag, af, ae, aj, ak]; done
                · simp [a, b, e, d, f, g, i, j, m, k, q, o, u, v, w, ab, aa, z, y, ac, ad, ai, ag, af, ae, aj, ak]; rfl
                · first | (simp [a, b, e, d, f, g, i, j, m, k, q, o, u, v, w, ab, aa, z, y, ac, ad, ai, ag, af, ae, aj, ak] <;> omega) | (have hq := ak; simp at hq; simp [a, b, e, d, f, g, i, j, m, k, q, o, u, v, w, ab, aa, z, y, ac, ad, ai, ag, af, ae, aj, ak, hq]; done) | skip
                iterate 2
                  refine regv_pure (s1 := ?_) rfl rfl ?_ ?_ ?_
                  rotate_left
                  · simp [a, b, e, d, f, g, i, j, m, k, q, o, u, v, w, ab, aa, z, y, ac, ad, ai, ag, af, ae, aj, ak]; rfl
                  · first | (simp [a, b, e, d, f, g, i, j, m, k, q, o, u, v, w, ab, aa, z, y, ac, ad, ai, ag, af, ae, aj, ak] <;> omega) | (have hq := ak; simp at hq; simp [a, b, e, d, f, g, i, j, m, k, q, o, u, v, w, ab, aa, z, y, ac, ad, ai, ag, af, ae, aj, ak, hq]; done) | skip
                cases am : (!bp)
                · rw [am, if_neg (by simp)] at h
                  refine regv_skip (s1 := ?_) ?_ ?_ ?_
                  rotate_left
                  · simp [a, b, e, d, f, g, i, j, m, k, q, o, u, v, w, ab, aa, z, y, ac, ad, ai, ag, af, ae, aj, ak, am]; done
                  · simp [a, b, e, d, f, g, i, j, m, k, q, o, u, v, w, ab, aa, z, y, ac, ad, ai, ag, af, ae, aj, ak, am]; rfl
                  refine regv_skip (s1 := ?_) ?_ ?_ ?_
                  rotate_left
                  · simp [a, b, e, d, f, g, i, j, m, k, q, o, u, v, w, ab, aa, z, y, ac, ad, ai, ag, af, ae, aj, ak, am]; done
                  · simp [a, b, e, d, f, g, i, j, m, k, q, o, u, v, w, ab, aa, z, y, ac, ad, ai, ag, af, ae, aj, ak, am]; rfl
                  refine regv_skip (s1 := ?_) ?_ ?_ ?_
                  rotate_left
                  · simp [a, b, e, d, f, g, i, j, m, k, q, o, u, v, w, ab, aa, z, y, ac, ad, ai, ag, af, ae, aj, ak, am]; done
                  · simp [a, b, e, d, f, g, i, j, m, k, q, o, u, v, w, ab, aa, z, y, ac, ad, ai, ag, af, ae, aj, ak, am]; rfl
                  refine regv_skip (s1 := ?_) ?_ ?_ ?_
                  rotate_left
                  · simp [a, b, e, d, f, g, i, j, m, k, q, o, u, v, w, ab, aa, z, y, ac, ad, ai, ag, af, ae, aj, ak, am]; done
                  · simp [a, b, e, d, f, g, i, j, m, k, q, o, u, v, w, ab, aa, z, y, ac, ad, ai, ag, af, ae, aj, ak, am]; rfl
                  iterate 2
                    refine regv_pure (s1 := ?_) rfl rfl ?_ ?_ ?_
                    rotate_left
                    · simp [a, b, e, d, f, g, i, j, m, k, q, o, u, v, w, ab, aa, z, y, ac, ad, ai, ag, af, ae, aj, ak, am]; rfl
                    · first | (simp [a, b, e, d, f, g, i, j, m, k, q, o, u, v, w, ab, aa, z, y, ac, ad, ai, ag, af, ae, aj, ak, am] <;> omega) | (have hq := am; simp at hq; simp [a, b, e, d, f, g, i, j, m, k, q, o, u, v, w, ab, aa, z, y, ac, ad, ai, ag, af, ae, aj, ak, am, hq]; done) | skip
                  refine regv_skip (s1 := ?_) ?_ ?_ ?_
                  rotate_left
                  · simp [a, b, e, d, f, g, i, j, m, k, q, o, u, v, w, ab, aa, z, y, ac, ad, ai, ag, af, ae, aj, ak, am]; done
                  · simp [a, b, e, d, f, g, i, j, m, k, q, o, u, v, w, ab, aa, z, y, ac, ad, ai, ag, af, ae, aj, ak, am]; rfl
                  refine regv_skip (s1 := ?_) ?_ ?_ ?_
                  rotate_left
                  · simp [a, b, e, d, f, g, i, j, m, k, q, o, u, v, w, ab, aa, z, y, ac, ad, ai, ag, af, ae, aj, ak, am]; done
                  · simp [a, b, e, d, f, g, i, j, m, k, q, o, u, v, w, ab, aa, z, y, ac, ad, ai, ag, af, ae, aj, ak, am]; rfl
                  refine regv_skip (s1 := ?_) ?_ ?_ ?_
                  rotate_left
                  · simp [a, b, e, d, f, g, i, j, m, k, q, o, u, v, w, ab, aa, z, y, ac, ad, ai, ag, af, ae, aj, ak, am]; done
                  · simp [a, b, e, d, f, g, i, j, m, k, q, o, u, v, w, ab, aa, z, y, ac, ad, ai, ag, af, ae, aj, ak, am]; rfl
                  refine regv_skip (s1 := ?_) ?_ ?_ ?_
                  rotate_left
                  · simp [a, b, e, d, f, g, i, j, m, k, q, o, u, v, w, ab, aa, z, y, ac, ad, ai, ag, af, ae, aj, ak, am]; done
                  · simp [a, b, e, d, f, g, i, j, m, k, q, o, u, v, w, ab, aa, z, y, ac, ad, ai, ag, af, ae, aj, ak, am]; rfl
                  refine regv_skip (s1 := ?_) ?_ ?_ ?_
                  rotate_left
                  · simp [a, b, e, d, f, g, i, j, m, k, q, o, u, v, w, ab, aa, z, y, ac, ad, ai, ag, af, ae, aj, ak, am]; done
                  · simp [a, b, e, d, f, g, i, j, m, k, q, o, u, v, w, ab, aa, z, y, ac, ad, ai, ag, af, ae, aj, ak, am]; rfl
                  iterate 2
                    refine regv_pure (s1 := ?_) rfl rfl ?_ ?_ ?_
                    rotate_left
                    · simp [a, b, e, d, f, g, i, j, m, k, q, o, u, v, w, ab, aa, z, y, ac, ad, ai, ag, af, ae, aj, ak, am]; rfl
                    · first | (simp [a, b, e, d, f, g, i, j, m, k, q, o, u, v, w, ab, aa, z, y, ac, ad, ai, ag, af, ae, aj, ak, am] <;> omega) | (have hq := am; simp at hq; simp [a, b, e, d, f, g, i, j, m, k, q, o, u, v, w, ab, aa, z, y, ac, ad, ai, ag, af, ae, aj, ak, am, hq]; done) | skip
                  refine regv_nil ?_
                  cases h
                  refine Wp.ret (endQ_ret0 rfl ?_)
                  repeat' first | exact All2.nil | refine All2.cons ?_ ?_ | refine AvLe.tups ?_ | refine AvLe.aggs ?_
                  all_goals first
                    | (exact AvLe.refl _ rfl)
                    | (exact AvLe.nil _)
                    | (exact AvLe.znil _)
                    | (exact AvLe.ghost _ rfl)
                    | (exact AvLe.zghost _ rfl)
                    | (exact AvLe.sl' rfl (by simp [a, b, e, d, f, g, i, j, m, k, q, o, u, v, w, ab, aa, z, y, ac, ad, ai, ag, af, ae, aj, ak, am]; done) (by simp [a, b, e, d, f, g, i, j, m, k, q, o, u, v, w, ab, aa, z, y, ac, ad, ai, ag, af, ae, aj, ak, am]; done))
                    | (exact AvLe.frz' rfl rfl rfl (by simp [a, b, e, d, f, g, i, j, m, k, q, o, u, v, w, ab, aa, z, y, ac, ad, ai, ag, af, ae, aj, ak, am]; done) (by simp [a, b, e, d, f, g, i, j, m, k, q, o, u, v, w, ab, aa, z, y, ac, ad, ai, ag, af, ae, aj, ak, am]; done) (by simp [a, b, e, d, f, g, i, j, m, k, q, o, u, v, w, ab, aa, z, y, ac, ad, ai, ag, af, ae, aj, ak, am]; done))
                    | (exact AvLe.list' (by simp [a, b, e, d, f, g, i, j, m, k, q, o, u, v, w, ab, aa, z, y, ac, ad, ai, ag, af, ae, aj, ak, am]; done) (by simp [a, b, e, d, f, g, i, j, m, k, q, o, u, v, w, ab, aa, z, y, ac, ad, ai, ag, af, ae, aj, ak, am]; done))
                    | (exact AvLe.eq (by simp [a, b, e, d, f, g, i, j, m, k, q, o, u, v, w, ab, aa, z, y, ac, ad, ai, ag, af, ae, aj, ak, am]; done) rfl)
                · rw [am, if_pos rfl] at h
                  refine regv_pure (s1 := ?_) rfl ?_ ?_ ?_ ?_
                  rotate_left
                  · simp [a, b, e, d, f, g, i, j, m, k, q, o, u, v, w, ab, aa, z, y, ac, ad, ai, ag, af, ae, aj, ak, am]; done
                  · simp [a, b, e, d, f, g, i, j, m, k, q, o, u, v, w, ab, aa, z, y, ac, ad, ai, ag, af, ae, aj, ak, am]; rfl
                  · first | (simp [a, b, e, d, f, g, i, j, m, k, q, o, u, v, w, ab, aa, z, y, ac, ad, ai, ag, af, ae, aj, ak, am] <;> omega) | (have hq := am; simp at hq; simp [a, b, e, d, f, g, i, j, m, k, q, o, u, v, w, ab, aa, z, y, ac, ad, ai, ag, af, ae, aj, ak, am, hq]; done) | skip
                  refine regv_pure (s1 := ?_) rfl ?_ ?_ ?_ ?_
                  rotate_left
                  · simp [a, b, e, d, f, g, i, j, m, k, q, o, u, v, w, ab, aa, z, y, ac, ad, ai, ag, af, ae, aj, ak, am]; done
                  · simp [a, b, e, d, f, g, i, j, m, k, q, o, u, v, w, ab, aa, z, y, ac, ad, ai, ag, af, ae, aj, ak, am]; rfl
                  · first | (simp [a, b, e, d, f, g, i, j, m, k, q, o, u, v, w, ab, aa, z, y, ac, ad, ai, ag, af, ae, aj, ak, am] <;> omega) | (have hq := am; simp at hq; simp [a, b, e, d, f, g, i, j, m, k, q, o, u, v, w, ab, aa, z, y, ac, ad, ai, ag, af, ae, aj, ak, am, hq]; done) | skip
                  refine regv_pure (s1 := ?_) rfl ?_ ?_ ?_ ?_
                  rotate_left
                  · simp [a, b, e, d, f, g, i, j, m, k, q, o, u, v, w, ab, aa, z, y, ac, ad, ai, ag, af, ae, aj, ak, am]; done
                  · simp [a, b, e, d, f, g, i, j, m, k, q, o, u, v, w, ab, aa, z, y, ac, ad, ai, ag, af, ae, aj, ak, am]; rfl
                  · first | (simp [a, b, e, d, f, g, i, j, m, k, q, o, u, v, w, ab, aa, z, y, ac, ad, ai, ag, af, ae, aj, ak, am] <;> omega) | (have hq := am; simp at hq; simp [a, b, e, d, f, g, i, j, m, k, q, o, u, v, w, ab, aa, z, y, ac, ad, ai, ag, af, ae, aj, ak, am, hq]; done) | skip
                  refine regv_pure (s1 := ?_) rfl ?_ ?_ ?_ ?_
                  rotate_left
                  · simp [a, b, e, d, f, g, i, j, m, k, q, o, u, v, w, ab, aa, z, y, ac, ad, ai, ag, af, ae, aj, ak, am]; done
                  · simp [a, b, e, d, f, g, i, j, m, k, q, o, u, v, w, ab, aa, z, y, ac, ad, ai, ag, af, ae, aj, ak, am]; rfl
                  · first | (simp [a, b, e, d, f, g, i, j, m, k, q, o, u, v, w, ab, aa, z, y, ac, ad, ai, ag, af, ae, aj, ak, am] <;> omega) | (have hq := am; simp at hq; simp [a, b, e, d, f, g, i, j, m, k, q, o, u, v, w, ab, aa, z, y, ac, ad, ai, ag, af, ae, aj, ak, am, hq]; done) | skip
                  iterate 2
                    refine regv_pure (s1 := ?_) rfl rfl ?_ ?_ ?_
                    rotate_left
                    · simp [a, b, e, d, f, g, i, j, m, k, q, o, u, v, w, ab, aa, z, y, ac, ad, ai, ag, af, ae, aj, ak, am]; rfl
                    · first | (simp [a, b, e, d, f, g, i, j, m, k, q, o, u, v, w, ab, aa, z, y, ac, ad, ai, ag, af, ae, aj, ak, am] <;> omega) | (have hq := am; simp at hq; simp [a, b, e, d, f, g, i, j, m, k, q, o, u, v, w, ab, aa, z, y, ac, ad, ai, ag, af, ae, aj, ak, am, hq]; done) | skip
                  cases ao : ((bo.Q.length : Int) == 1)
                  · rw [ao, if_neg (by simp)] at h
                    refine regv_skip (s1 := ?_) ?_ ?_ ?_
                    rotate_left
                    · simp [a, b, e, d, f, g, i, j, m, k, q, o, u, v, w, ab, aa, z, y, ac, ad, ai, ag, af, ae, aj, ak, am, ao]; done
                    · simp [a, b, e, d, f, g, i, j, m, k, q, o, u, v, w, ab, aa, z, y, ac, ad, ai, ag, af, ae, aj, ak, am, ao]; rfl
                    refine regv_skip (s1 := ?_) ?_ ?_ ?_
                    rotate_left
                    · simp [a, b, e, d, f, g, i, j, m, k, q, o, u, v, w, ab, aa, z, y, ac, ad, ai, ag, af, ae, aj, ak, am, ao]; done
                    · simp [a, b, e, d, f, g, i, j, m, k, q, o, u, v, w, ab, aa, z, y, ac, ad, ai, ag, af, ae, aj, ak, am, ao]; rfl
                    refine regv_skip (s1 := ?_) ?_ ?_ ?_
                    rotate_left
                    · simp [a, b, e, d, f, g, i, j, m, k, q, o, u, v, w, ab, aa, z, y, ac, ad, ai, ag, af, ae, aj, ak, am, ao]; done
                    · simp [a, b, e, d, f, g, i, j, m, k, q, o, u, v, w, ab, aa, z, y, ac, ad, ai, ag, af, ae, aj, ak, am, ao]; rfl
                    refine regv_skip (s1 := ?_) ?_ ?_ ?_
                    rotate_left
                    · simp [a, b, e, d, f, g, i, j, m, k, q, o, u, v, w, ab, aa, z, y, ac, ad, ai, ag, af, ae, aj, ak, am, ao]; done
                    · simp [a, b, e, d, f, g, i, j, m, k, q, o, u, v, w, ab, aa, z, y, ac, ad, ai, ag, af, ae, aj, ak, am, ao]; rfl
                    refine regv_skip (s1 := ?_) ?_ ?_ ?_
                    rotate_left
                    · simp [a, b, e, d, f, g, i, j, m, k, q, o, u, v, w, ab, aa, z, y, ac, ad, ai, ag, af, ae, aj, ak, am, ao]; done
                    · simp [a, b, e, d, f, g, i, j, m, k, q, o, u, v, w, ab, aa, z, y, ac, ad, ai, ag, af, ae, aj, ak, am, ao]; rfl
                    iterate 2
                      refine regv_pure (s1 := ?_) rfl rfl ?_ ?_ ?_
                      rotate_left
                      · simp [a, b, e, d, f, g, i, j, m, k, q, o, u, v, w, ab, aa, z, y, ac, ad, ai, ag, af, ae, aj, ak, am, ao]; rfl
                      · first | (simp [a, b, e, d, f, g, i, j, m, k, q, o, u, v, w, ab, aa, z, y, ac, ad, ai, ag, af, ae, aj, ak, am, ao] <;> omega) | (have hq := ao; simp at hq; simp [a, b, e, d, f, g, i, j, m, k, q, o, u, v, w, ab, aa, z, y, ac, ad, ai, ag, af, ae, aj, ak, am, ao, hq]; done) | skip
                    refine regv_nil ?_
                    cases h
                    refine Wp.ret (endQ_ret0 rfl ?_)
                    repeat' first | exact All2.nil | refine All2.cons ?_ ?_ | refine AvLe.tups ?_ | refine AvLe.aggs ?_
                    all_goals first
                      | (exact AvLe.refl _ rfl)
                      | (exact AvLe.nil _)
                      | (exact AvLe.znil _)
                      | (exact AvLe.ghost _ rfl)
                      | (exact AvLe.zghost _ rfl)
                      | (exact AvLe.sl' rfl (by simp [a, b, e, d, f, g, i, j, m, k, q, o, u, v, w, ab, aa, z, y, ac, ad, ai, ag, af, ae, aj, ak, am, ao]; done) (by simp [a, b, e, d, f, g, i, j, m, k, q, o, u, v, w, ab, aa, z, y, ac, ad, ai, ag, af, ae, aj, ak, am, ao]; done))
                      | (exact AvLe.frz' rfl rfl rfl (by simp [a, b, e, d, f, g, i, j, m, k, q, o, u, v, w, ab, aa, z, y, ac, ad, ai, ag, af, ae, aj, ak, am, ao]; done) (by simp [a, b, e, d, f, g, i, j, m, k, q, o, u, v, w, ab, aa, z, y, ac, ad, ai, ag, af, ae, aj, ak, am, ao]; done) (by simp [a, b, e, d, f, g, i, j, m, k, q, o, u, v, w, ab, aa, z, y, ac, ad, ai, ag, af, ae, aj, ak, am, ao]; done))
                      | (exact AvLe.list' (by simp [a, b, e, d, f, g, i, j, m, k, q, o, u, v, w, ab, aa, z, y, ac, ad, ai, ag, af, ae, aj, ak, am, ao]; done) (by simp [a, b, e, d, f, g, i, j, m, k, q, o, u, v, w, ab, aa, z, y, ac, ad, ai, ag, af, ae, aj, ak, am, ao]; done))
                      | (exact AvLe.eq (by simp [a, b, e, d, f, g, i, j, m, k, q, o, u, v, w, ab, aa, z, y, ac, ad, ai, ag, af, ae, aj, ak, am, ao]; done) rfl)
                  · rw [ao, if_pos rfl] at h
                    refine regv_pure (s1 := ?_) rfl ?_ ?_ ?_ ?_
                    rotate_left
                    · simp [a, b, e, d, f, g, i, j, m, k, q, o, u, v, w, ab, aa, z, y, ac, ad, ai, ag, af, ae, aj, ak, am, ao]; done
                    · simp [a, b, e, d, f, g, i, j, m, k, q, o, u, v, w, ab, aa, z, y, ac, ad, ai, ag, af, ae, aj, ak, am, ao]; rfl
                    · first | (simp [a, b, e, d, f, g, i, j, m, k, q, o, u, v, w, ab, aa, z, y, ac, ad, ai, ag, af, ae, aj, ak, am, ao] <;> omega) | (have hq := ao; simp at hq; simp [a, b, e, d, f, g, i, j, m, k, q, o, u, v, w, ab, aa, z, y, ac, ad, ai, ag, af, ae, aj, ak, am, ao, hq]; done) | skip
                    refine regv_pure (s1 := ?_) rfl ?_ ?_ ?_ ?_
                    rotate_left
                    · simp [a, b, e, d, f, g, i, j, m, k, q, o, u, v, w, ab, aa, z, y, ac, ad, ai, ag, af, ae, aj, ak, am, ao]; done
                    · simp [a, b, e, d, f, g, i, j, m, k, q, o, u, v, w, ab, aa, z, y, ac, ad, ai, ag, af, ae, aj, ak, am, ao]; rfl
                    · first | (simp [a, b, e, d, f, g, i, j, m, k, q, o, u, v, w, ab, aa, z, y, ac, ad, ai, ag, af, ae, aj, ak, am, ao] <;> omega) | (have hq := ao; simp at hq; simp [a, b, e, d, f, g, i, j, m, k, q, o, u, v, w, ab, aa, z, y, ac, ad, ai, ag, af, ae, aj, ak, am, ao, hq]; done) | skip
                    obtain ⟨ce, bj, h⟩ := obind h
                    obtain ⟨av, au, aq⟩ := atI_some bj
                    try simp [a, b, e, d, f, g, i, j, m, k, q, o, u, v, w, ab, aa, z, y, ac, ad, ai, ag, af, ae, aj, ak, am, ao] at au
                    try simp only [Int.toNat_natCast, Int.reduceToNat, Nat.zero_add, Nat.add_zero] at aq
                    have ap := getElem_of aq
                    refine regv_pure (s1 := ?_) rfl ?_ ?_ ?_ ?_
                    rotate_left
                    · simp [a, b, e, d, f, g, i, j, m, k, q, o, u, v, w, ab, aa, z, y, ac, ad, ai, ag, af, ae, aj, ak, am, ao, av, au, aq, ap]; done
                    · simp [a, b, e, d, f, g, i, j, m, k, q, o, u, v, w, ab, aa, z, y, ac, ad, ai, ag, af, ae, aj, ak, am, ao, av, au, aq, ap]; rfl
                    · first | (simp [a, b, e, d, f, g, i, j, m, k, q, o, u, v, w, ab, aa, z, y, ac, ad, ai, ag, af, ae, aj, ak, am, ao, av, au, aq, ap] <;> omega) | (have hq := ap; simp at hq; simp [a, b, e, d, f, g, i, j, m, k, q, o, u, v, w, ab, aa, z, y, ac, ad, ai, ag, af, ae, aj, ak, am, ao, av, au, aq, ap, hq]; done) | skip
                    refine regv_pure (s1 := ?_) rfl ?_ ?_ ?_ ?_
                    rotate_left
                    · simp [a, b, e, d, f, g, i, j, m, k, q, o, u, v, w, ab, aa, z, y, ac, ad, ai, ag, af, ae, aj, ak, am, ao, av, au, aq, ap]; done
                    · simp [a, b, e, d, f, g, i, j, m, k, q, o, u, v, w, ab, aa, z, y, ac, ad, ai, ag, af, ae, aj, ak, am, ao, av, au, aq, ap]; rfl
                    · first | (simp [a, b, e, d, f, g, i, j, m, k, q, o, u, v, w, ab, aa, z, y, ac, ad, ai, ag, af, ae, aj, ak, am, ao, av, au, aq, ap] <;> omega) | (have hq := ap; simp at hq; simp [a, b, e, d, f, g, i, j, m, k, q, o, u, v, w, ab, aa, z, y, ac, ad, ai, ag, af, ae, aj, ak, am, ao, av, au, aq, ap, hq]; done) | skip
                    refine regv_pure (s1 := ?_) rfl ?_ ?_ ?_ ?_
                    rotate_left
                    · simp [a, b, e, d, f, g, i, j, m, k, q, o, u, v, w, ab, aa, z, y, ac, ad, ai, ag, af, ae, aj, ak, am, ao, av, au, aq, ap]; done
                    · simp [a, b, e, d, f, g, i, j, m, k, q, o, u, v, w, ab, aa, z, y, ac, ad, ai, ag, af, ae, aj, ak, am, ao, av, au, aq, ap]; rfl
                    · first | (simp [a, b, e, d, f, g, i, j, m, k, q, o, u, v, w, ab, aa, z, y, ac, ad, ai, ag, af, ae, aj, ak, am, ao, av, au, aq, ap] <;> omega) | (have hq := ap; simp at hq; simp [a, b, e, d, f, g, i, j, m, k, q, o, u, v, w, ab, aa, z, y, ac, ad, ai, ag, af, ae, aj, ak, am, ao, av, au, aq, ap, hq]; done) | skip
                    iterate 2
                      refine regv_pure (s1 := ?_) rfl rfl ?_ ?_ ?_
                      rotate_left
                      · simp [a, b, e, d, f, g, i, j, m, k, q, o, u, v, w, ab, aa, z, y, ac, ad, ai, ag, af, ae, aj, ak, am, ao, av, au, aq, ap]; rfl
                      · first | (simp [a, b, e, d, f, g, i, j, m, k, q, o, u, v, w, ab, aa, z, y, ac, ad, ai, ag, af, ae, aj, ak, am, ao, av, au, aq, ap] <;> omega) | (have hq := ap; simp at hq; simp [a, b, e, d, f, g, i, j, m, k, q, o, u, v, w, ab, aa, z, y, ac, ad, ai, ag, af, ae, aj, ak, am, ao, av, au, aq, ap, hq]; done) | skip
                    refine regv_nil ?_
                    cases h
                    refine Wp.ret (endQ_ret0 rfl ?_)
                    repeat' first | exact All2.nil | refine All2.cons ?_ ?_ | refine AvLe.tups ?_ | refine AvLe.aggs ?_
                    all_goals first
                      | (exact AvLe.refl _ rfl)
                      | (exact AvLe.nil _)
                      | (exact AvLe.znil _)
                      | (exact AvLe.ghost _ rfl)
                      | (exact AvLe.zghost _ rfl)
                      | (exact AvLe.sl' rfl (by simp [a, b, e, d, f, g, i, j, m, k, q, o, u, v, w, ab, aa, z, y, ac, ad, ai, ag, af, ae, aj, ak, am, ao, av, au, aq, ap]; done) (by simp [a, b, e, d, f, g, i, j, m, k, q, o, u, v, w, ab, aa, z, y, ac, ad, ai, ag, af, ae, aj, ak, am, ao, av, au, aq, ap]; done))
                      | (exact AvLe.frz' rfl rfl rfl (by simp [a, b, e, d, f, g, i, j, m, k, q, o, u, v, w, ab, aa, z, y, ac, ad, ai, ag, af, ae, aj, ak, am, ao, av, au, aq, ap]; done) (by simp [a, b, e, d, f, g, i, j, m, k, q, o, u, v, w, ab, aa, z, y, ac, ad, ai, ag, af, ae, aj, ak, am, ao, av, au, aq, ap]; done) (by simp [a, b, e, d, f, g, i, j, m, k, q, o, u, v, w, ab, aa, z, y, ac, ad, ai, ag, af, ae, aj, ak, am, ao, av, au, aq, ap]; done))
                      | (exact AvLe.list' (by simp [a, b, e, d, f, g, i, j, m, k, q, o, u, v, w, ab, aa, z, y, ac, ad, ai, ag, af, ae, aj, ak, am, ao, av, au, aq, ap]; done) (by simp [a, b, e, d, f, g, i, j, m, k, q, o, u, v, w, ab, aa, z, y, ac, ad, ai, ag, af, ae, aj, ak, am, ao, av, au, aq, ap]; done))
                      | (exact AvLe.eq (by simp [a, b, e, d, f, g, i, j, m, k, q, o, u, v, w, ab, aa, z, y, ac, ad, ai, ag, af, ae, aj, ak, am, ao, av, au, aq, ap]; done) rfl)

def law16_RungevalScanMatchesReference_S1 (n : Nat) (_append0 : ApiRung) (a2 : ApiState) (af : ApiState) : St :=
  { ch := [(3, .hptr 0 0 0), (5, .hptr 1 0 0), (7, .hptr 2 0 0)], hp := [.var [.str _append0.Label, aL cApiContact _append0.Contacts, aL cApiCoil _append0.Coils, .str _append0.Jump], .var [aL cB a2.Q, aL cB a2.M, aL cB a2.E], .var [aL cB af.Q, aL cB af.M, aL cB af.E]], base := 0, n := 104, cond := True }

def law16_RungevalScanMatchesReference_S2 (n : Nat) (a2 : ApiState) (af : ApiState) : St :=
  { ch := [(5, .hptr 0 0 0), (7, .hptr 1 0 0)], hp := [.var [aL cB a2.Q, aL cB a2.M, aL cB a2.E], .var [aL cB af.Q, aL cB af.M, aL cB af.E]], base := 0, n := 104, cond := True }

def law16_RungevalScanMatchesReference_S3 (n : Nat) (_append0 : ApiRung) (a2 : ApiState) (af : ApiState) (ag : List Bool) (aj : Int) : St :=
  { ch := [(3, .hptr 0 0 0), (5, .hptr 1 0 0), (7, .hptr 2 0 0), (68, aL cB ag), (69, .int .i64 (ag.length : Int)), (70, .int .i64 aj)], hp := [.var [.str _append0.Label, aL cApiContact _append0.Contacts, aL cApiCoil _append0.Coils, .str _append0.Jump], .var [aL cB a2.Q, aL cB a2.M, aL cB a2.E], .var [aL cB af.Q, aL cB af.M, aL cB af.E]], base := 0, n := 104, cond := True }

def law16_RungevalScanMatchesReference_S4 (n : Nat) (_append0 : ApiRung) (a1 : List Bool) (a2 : ApiState) (af : ApiState) (ai : List Int) (ak : Int) : St :=
  { ch := [(1, aL cB a1), (3, .hptr 0 0 0), (5, .hptr 1 0 0), (7, .hptr 2 0 0), (29, aL (cI .i64) ai), (30, .int .i64 (ai.length : Int)), (31, .int .i64 ak)], hp := [.var [.str _append0.Label, aL cApiContact _append0.Contacts, aL cApiCoil _append0.Coils, .str _append0.Jump], .var [aL cB a2.Q, aL cB a2.M, aL cB a2.E], .var [aL cB af.Q, aL cB af.M, aL cB af.E]], base := 0, n := 104, cond := True }

theorem con_law16_RungevalScanMatchesReference {n : Nat} {_append0 : ApiRung} {a1 : List Bool} {a2 : ApiState} {r : Bool} (h : law16_RungevalScanMatchesReference n _append0 a1 a2 = some r) : Con Try.prog 4 [.agg (cApiRung _append0), aL cB a1, .agg (cApiState a2)] (.bool r) [] := by
  refine con_of (T := TT0) tt_ok Try.func4 (c := _) (by unfold Try.f4; rfl) Try.ntmps4 (rs := [.tmp 6]) (by rw [Try.results4]) (by unfold Try.f4; rfl) (by simp) ?_
  simp only [argsCh]
  dsimp only [law16_RungevalScanMatchesReference] at h
  refine Wp.reg_seq (own := fun _ => false) tt_ok ?_
  iterate 3
    refine regv_pure (s1 := ?_) rfl rfl ?_ ?_ ?_
    rotate_left
    · simp []; rfl
    · first | (simp [] <;> omega) | skip
  refine regv_nil ?_
  refine Wp.seq ?_
  refine Wp.reg_seq (own := fun _ => false) tt_ok ?_
  iterate 3
    refine regv_pure (s1 := ?_) rfl rfl ?_ ?_ ?_
    rotate_left
    · simp []; rfl
    · first | (simp [] <;> omega) | skip
  obtain ⟨bg, ap, h⟩ := obind h
  refine regv_call2 (s' := ?_) (p := ?_) (con_law16_tooLarge ap) rfl rfl rfl rfl ?_ ?_ ?_ ?_ ?_ ?_
  rotate_left 2
  · simp []; rfl
  · first | exact .inl rfl | (refine .inl ?_; simp []; done) | (refine .inr ?_; dsimp only; repeat' first | exact All2.nil | refine All2.cons ?_ ?_) <;> first | exact AvLe.refl _ rfl | exact AvLe.nil _ | exact AvLe.znil _ | exact AvLe.list' (by simp []; done) (by simp []; done) | exact AvLe.eq (by simp []; done) rfl
  · first | (simp [] <;> omega) | skip
  · simp
  · simp []; rfl
  refine regv_nil ?_
  cases a : bg
  · rw [a, if_neg (by simp)] at h
    refine Wp.cond false (by first | (simp [a] <;> omega) | (have hq := a; simp at hq; simp [a, hq]; done)) (fun h0 => absurd h0 (by decide)) (fun _ => ?_)
    refine Wp.skip ?_
    show Wp _ _ _ _
    refine Wp.reg_seq (own := fun _ => false) tt_ok ?_
    iterate 1
      refine regv_pure (s1 := ?_) rfl rfl ?_ ?_ ?_
      rotate_left
      · simp [a]; rfl
      · first | (simp [a] <;> omega) | (have hq := a; simp at hq; simp [a, hq]; done) | skip
    obtain ⟨af, aq, h⟩ := obind h
    refine regv_call2 (s' := ?_) (p := ?_) (con_ref03_Clone aq) rfl rfl rfl rfl ?_ ?_ ?_ ?_ ?_ ?_
    rotate_left 2
    · simp [a]; rfl
    · first | exact .inl rfl | (refine .inl ?_; simp [a]; done) | (refine .inr ?_; dsimp only; repeat' first | exact All2.nil | refine All2.cons ?_ ?_) <;> first | exact AvLe.refl _ rfl | exact AvLe.nil _ | exact AvLe.znil _ | exact AvLe.list' (by simp [a]; done) (by simp [a]; done) | exact AvLe.eq (by simp [a]; done) rfl
    · first | (simp [a] <;> omega) | (have hq := a; simp at hq; simp [a, hq]; done) | skip
    · simp
    · simp [a]; rfl
    iterate 2
      refine regv_pure (s1 := ?_) rfl rfl ?_ ?_ ?_
      rotate_left
      · simp [a]; rfl
      · first | (simp [a] <;> omega) | (have hq := a; simp at hq; simp [a, hq]; done) | skip
    refine regv_nil ?_
    refine Wp.join (α := Unit) (fun x => law16_RungevalScanMatchesReference_S1 n _append0 a2 af ) (fun x => law16_RungevalScanMatchesReference_J1 n _append0 a2 af  = some r) ?_ ?_
    · clear h
      rintro _ h
      simp only [law16_RungevalScanMatchesReference_S1]
      dsimp only [law16_RungevalScanMatchesReference_J1] at h
      refine Wp.join (α := Unit) (fun x => law16_RungevalScanMatchesReference_S2 n a2 af ) (fun x => law16_RungevalScanMatchesReference_J2 n a2 af  = some r) ?_ ?_
      · clear h
        rintro _ h
        simp only [law16_RungevalScanMatchesReference_S2]
        dsimp only [law16_RungevalScanMatchesReference_J2] at h
        refine Wp.reg_seq (own := fun _ => false) tt_ok ?_
        obtain ⟨bi, au, h⟩ := obind h
        refine regv_call2 (s' := ?_) (p := ?_) (con_law16_alive au) rfl rfl rfl rfl ?_ ?_ ?_ ?_ ?_ ?_
        rotate_left 2
        · simp [a]; rfl
        · first | exact .inl rfl | (refine .inl ?_; simp [a]; done) | (refine .inr ?_; dsimp only; repeat' first | exact All2.nil | refine All2.cons ?_ ?_) <;> first | exact AvLe.refl _ rfl | exact AvLe.nil _ | exact AvLe.znil _ | exact AvLe.list' (by simp [a]; done) (by simp [a]; done) | exact AvLe.eq (by simp [a]; done) rfl
        · first | (simp [a] <;> omega) | (have hq := a; simp at hq; simp [a, hq]; done) | skip
        · simp
        · simp [a]; rfl
        iterate 1
          refine regv_pure (s1 := ?_) rfl rfl ?_ ?_ ?_
          rotate_left
          · simp [a]; rfl
          · first | (simp [a] <;> omega) | (have hq := a; simp at hq; simp [a, hq]; done) | skip
        cases ac : bi
        · rw [ac, if_neg (by simp)] at h
          refine regv_skip (s1 := ?_) ?_ ?_ ?_
          rotate_left
          · simp [a, ac]; done
          · simp [a, ac]; rfl
          refine regv_skip (s1 := ?_) ?_ ?_ ?_
          rotate_left
          · simp [a, ac]; done
          · simp [a, ac]; rfl
          refine regv_skip (s1 := ?_) ?_ ?_ ?_
          rotate_left
          · simp [a, ac]; done
          · simp [a, ac]; rfl
          iterate 2
            refine regv_pure (s1 := ?_) rfl rfl ?_ ?_ ?_
            rotate_left
            · simp [a, ac]; rfl
            · first | (simp [a, ac] <;> omega) | (have hq := ac; simp at hq; simp [a, ac, hq]; done) | skip
          refine regv_nil ?_
          cases h
          refine Wp.ret (endQ_ret0 rfl ?_)
          repeat' first | exact All2.nil | refine All2.cons ?_ ?_ | refine AvLe.tups ?_ | refine AvLe.aggs ?_
          all_goals first
            | (exact AvLe.refl _ rfl)
            | (exact AvLe.nil _)
            | (exact AvLe.znil _)
            | (exact AvLe.ghost _ rfl)
            | (exact AvLe.zghost _ rfl)
            | (exact AvLe.sl' rfl (by simp [a, ac]; done) (by simp [a, ac]; done))
            | (exact AvLe.frz' rfl rfl rfl (by simp [a, ac]; done) (by simp [a, ac]; done) (by simp [a, ac]; done))
            | (exact AvLe.list' (by simp [a, ac]; done) (by simp [a, ac]; done))
            | (exact AvLe.eq (by simp [a, ac]; done) rfl)
        · rw [ac, if_pos rfl] at h
          refine regv_pure (s1 := ?_) rfl ?_ ?_ ?_ ?_
          rotate_left
          · simp [a, ac]; done
          · simp [a, ac]; rfl
          · first | (simp [a, ac] <;> omega) | (have hq := ac; simp at hq; simp [a, ac, hq]; done) | skip
          refine regv_pure (s1 := ?_) rfl ?_ ?_ ?_ ?_
          rotate_left
          · simp [a, ac]; done
          · simp [a, ac]; rfl
          · first | (simp [a, ac] <;> omega) | (have hq := ac; simp at hq; simp [a, ac, hq]; done) | skip
          obtain ⟨bw, av, h⟩ := obind h
          refine regv_call2 (s' := ?_) (p := ?_) (con_ref03_Equal av) rfl rfl rfl rfl ?_ ?_ ?_ ?_ ?_ ?_
          rotate_left 2
          · simp [a, ac]; rfl
          · first | exact .inl rfl | (refine .inl ?_; simp [a, ac]; done) | (refine .inr ?_; dsimp only; repeat' first | exact All2.nil | refine All2.cons ?_ ?_) <;> first | exact AvLe.refl _ rfl | exact AvLe.nil _ | exact AvLe.znil _ | exact AvLe.list' (by simp [a, ac]; done) (by simp [a, ac]; done) | exact AvLe.eq (by simp [a, ac]; done) rfl
          · first | (simp [a, ac] <;> omega) | (have hq := ac; simp at hq; simp [a, ac, hq]; done) | skip
          · simp
          · simp [a, ac]; rfl
          iterate 2
            refine regv_pure (s1 := ?_) rfl rfl ?_ ?_ ?_
            rotate_left
            · simp [a, ac]; rfl
            · first | (simp [a, ac] <;> omega) | (have hq := ac; simp at hq; simp [a, ac, hq]; done) | skip
          refine regv_nil ?_
          cases h
          refine Wp.ret (endQ_ret0 rfl ?_)
          repeat' first | exact All2.nil | refine All2.cons ?_ ?_ | refine AvLe.tups ?_ | refine AvLe.aggs ?_
          all_goals first
            | (exact AvLe.refl _ rfl)
            | (exact AvLe.nil _)
            | (exact AvLe.znil _)
            | (exact AvLe.ghost _ rfl)
            | (exact AvLe.zghost _ rfl)
            | (exact AvLe.sl' rfl (by simp [a, ac]; done) (by simp [a, ac]; done))
            | (exact AvLe.frz' rfl rfl rfl (by simp [a, ac]; done) (by simp [a, ac]; done) (by simp [a, ac]; done))
            | (exact AvLe.list' (by simp [a, ac]; done) (by simp [a, ac]; done))
            | (exact AvLe.eq (by simp [a, ac]; done) rfl)
      · skip
        refine Wp.reg_seq (own := fun _ => false) tt_ok ?_
        iterate 1
          refine regv_pure (s1 := ?_) rfl rfl ?_ ?_ ?_
          rotate_left
          · simp [a]; rfl
          · first | (simp [a] <;> omega) | (have hq := a; simp at hq; simp [a, hq]; done) | skip
        obtain ⟨ag, am, h⟩ := obind h
        have g := congrArg (List.map cB) (Option.some.inj am)
        have f := (congrArg List.length (Option.some.inj am)).symm
        try simp [a] at g
        try simp [a] at f
        clear am
        try simp only [g]
        iterate 2
          refine regv_pure (s1 := ?_) rfl rfl ?_ ?_ ?_
          rotate_left
          · simp [a, g, f]; rfl
          · first | (simp [a, g, f] <;> omega) | (have hq := f; simp at hq; simp [a, g, f, hq]; done) | skip
        refine regv_nil ?_
        refine Wp.block ?_
        refine Wp.loopF (α := Int) (fun x => law16_RungevalScanMatchesReference_S3 n _append0 a2 af ag x) (fun m x => law16_RungevalScanMatchesReference_L3 n _append0 a2 af ag m x = some r) (fun _ h => by cases h) ?_ n 0 h ?_
        rotate_left
        · simp only [law16_RungevalScanMatchesReference_S3]
          refine Reloc.mk2 [some 0, some 1, some 2] rfl rfl rfl (by decide) ?_ ?_
          · repeat' first | exact objsLe_nil | refine objsLe_cons ?_ ?_
            all_goals first
              | exact trivial
              | (refine ObjLe.var' rfl rfl ?_ rfl
                 repeat' first | exact All2.nil | refine All2.cons ?_ ?_
                 all_goals first | (exact AvLe.refl _ rfl) | (exact AvLe.sl _ _ _ _ rfl) | (exact AvLe.hptr _ _ _ _ rfl) | (exact AvLe.mp _ _ rfl) | (exact AvLe.nil _) | (exact AvLe.znil _) | (exact AvLe.ghost _ rfl) | (exact AvLe.zghost _ rfl) | (exact AvLe.sl' rfl (by simp [a, g, f]; done) (by first | (simp [a, g, f] <;> omega) | omega)) | (exact AvLe.frz2 rfl (by simp) rfl (by simp [a, g, f]; done) (by simp [a, g, f]; done) (by simp [a, g, f]; done)) | (exact AvLe.list' (by simp [a, g, f]; done) (by simp [a, g, f]; done)) | (exact AvLe.eq (by simp [a, g, f]; done) rfl))
              | (exact ObjLe.map' rfl rfl)
              | (exact ObjLe.ghost' rfl (by decide))
              | (exact ObjLe.arr' rfl rfl (by first | (simp [a, g, f] <;> omega)) (fun _ _ => by first | rfl | (simp [a, g, f]; done)))
              | ((simp [a, g, f]; done))
          · repeat' first | exact chLe_nil | refine chLe_cons ?_ ?_
            all_goals first
              | (exact AvLe.refl _ rfl)
              | (exact AvLe.sl _ _ _ _ rfl)
              | (exact AvLe.hptr _ _ _ _ rfl)
              | (exact AvLe.mp _ _ rfl)
              | (exact AvLe.nil _)
              | (exact AvLe.znil _)
              | (exact AvLe.ghost _ rfl)
              | (exact AvLe.zghost _ rfl)
              | (exact AvLe.sl' rfl (by simp [a, g, f]; done) (by first | (simp [a, g, f] <;> omega) | omega))
              | (exact AvLe.frz2 rfl (by simp) rfl (by simp [a, g, f]; done) (by simp [a, g, f]; done) (by simp [a, g, f]; done))
              | (exact AvLe.list' (by simp [a, g, f]; done) (by simp [a, g, f]; done))
              | (exact AvLe.eq (by simp [a, g, f]; done) rfl)
        rintro rec_n3 aj h
        simp only [law16_RungevalScanMatchesReference_S3]
        dsimp only [law16_RungevalScanMatchesReference_L3] at h
        refine Wp.reg_seq (own := fun _ => false) tt_ok ?_
        iterate 1
          refine regv_pure (s1 := ?_) rfl rfl ?_ ?_ ?_
          rotate_left
          · simp [a, g, f]; rfl
          · first | (simp [a, g, f] <;> omega) | (have hq := f; simp at hq; simp [a, g, f, hq]; done) | skip
        refine regv_nil ?_
        refine Wp.seq ?_
        refine (Decidable.em (aj < (ag.length : Int))).symm.elim (fun u => ?_) (fun u => ?_)
        · rw [if_neg (by simpa using u)] at h
          refine Wp.cond false (by first | (simp [a, g, f, u] <;> omega) | (have hq := u; simp at hq; simp [a, g, f, u, hq]; done)) (fun h0 => absurd h0 (by decide)) (fun _ => ?_)
          refine Wp.exit ?_
          refine next_mk () h ?_
          refine Reloc.mk2 [some 1, some 2] rfl rfl rfl (by decide) ?_ ?_
          · repeat' first | exact objsLe_nil | refine objsLe_cons ?_ ?_
            all_goals first
              | exact trivial
              | (refine ObjLe.var' rfl rfl ?_ rfl
                 repeat' first | exact All2.nil | refine All2.cons ?_ ?_
                 all_goals first | (exact AvLe.refl _ rfl) | (exact AvLe.sl _ _ _ _ rfl) | (exact AvLe.hptr _ _ _ _ rfl) | (exact AvLe.mp _ _ rfl) | (exact AvLe.nil _) | (exact AvLe.znil _) | (exact AvLe.ghost _ rfl) | (exact AvLe.zghost _ rfl) | (exact AvLe.sl' rfl (by simp [a, g, f, u]; done) (by first | (simp [a, g, f, u] <;> omega) | omega)) | (exact AvLe.frz2 rfl (by simp) rfl (by simp [a, g, f, u]; done) (by simp [a, g, f, u]; done) (by simp [a, g, f, u]; done)) | (exact AvLe.list' (by simp [a, g, f, u]; done) (by simp [a, g, f, u]; done)) | (exact AvLe.eq (by simp [a, g, f, u]; done) rfl))
              | (exact ObjLe.map' rfl rfl)
              | (exact ObjLe.ghost' rfl (by decide))
              | (exact ObjLe.arr' rfl rfl (by first | (simp [a, g, f, u] <;> omega)) (fun _ _ => by first | rfl | (simp [a, g, f, u]; done)))
              | ((simp [a, g, f, u]; done))
          · repeat' first | exact chLe_nil | refine chLe_cons ?_ ?_
            all_goals first
              | (exact AvLe.refl _ rfl)
              | (exact AvLe.sl _ _ _ _ rfl)
              | (exact AvLe.hptr _ _ _ _ rfl)
              | (exact AvLe.mp _ _ rfl)
              | (exact AvLe.nil _)
              | (exact AvLe.znil _)
              | (exact AvLe.ghost _ rfl)
              | (exact AvLe.zghost _ rfl)
              | (exact AvLe.sl' rfl (by simp [a, g, f, u]; done) (by first | (simp [a, g, f, u] <;> omega) | omega))
              | (exact AvLe.frz2 rfl (by simp) rfl (by simp [a, g, f, u]; done) (by simp [a, g, f, u]; done) (by simp [a, g, f, u]; done))
              | (exact AvLe.list' (by simp [a, g, f, u]; done) (by simp [a, g, f, u]; done))
              | (exact AvLe.eq (by simp [a, g, f, u]; done) rfl)
        · rw [if_pos (decide_eq_true u)] at h
          refine Wp.cond true (by first | (simp [a, g, f, u] <;> omega) | (have hq := u; simp at hq; simp [a, g, f, u, hq]; done)) (fun _ => ?_) (fun h0 => absurd h0 (by decide))
          refine Wp.skip ?_
          show Wp _ _ _ _
          refine Wp.seq ?_
          refine Wp.block ?_
          refine Wp.reg_seq (own := fun _ => false) tt_ok ?_
          obtain ⟨bz, aw, h⟩ := obind h
          obtain ⟨y, w, v⟩ := atI_some aw
          try simp [a, g, f, u] at w
          try simp only [Int.toNat_natCast, Int.reduceToNat, Nat.zero_add, Nat.add_zero] at v
          have q := getElem_of v
          iterate 3
            refine regv_pure (s1 := ?_) rfl rfl ?_ ?_ ?_
            rotate_left
            · simp [a, g, f, u, y, w, v, q]; rfl
            · first | (simp [a, g, f, u, y, w, v, q] <;> omega) | (have hq := q; simp at hq; simp [a, g, f, u, y, w, v, q, hq]; done) | skip
          refine regv_nil ?_
          refine Wp.reg_seq (own := fun _ => false) tt_ok ?_
          iterate 3
            refine regv_pure (s1 := ?_) rfl rfl ?_ ?_ ?_
            rotate_left
            · simp [a, g, f, u, y, w, v, q]; rfl
            · first | (simp [a, g, f, u, y, w, v, q] <;> omega) | (have hq := q; simp at hq; simp [a, g, f, u, y, w, v, q, hq]; done) | skip
          obtain ⟨⟨ca, bj⟩, ay, h⟩ := obind h
          dsimp only at h
          refine regv_call2 (s' := ?_) (p := ?_) (con_rungeval_Coils ay) rfl rfl rfl rfl ?_ ?_ ?_ ?_ ?_ ?_
          rotate_left 2
          · simp [a, g, f, u, y, w, v, q]; rfl
          · first | exact .inl rfl | (refine .inl ?_; simp [a, g, f, u, y, w, v, q]; done) | (refine .inr ?_; dsimp only; repeat' first | exact All2.nil | refine All2.cons ?_ ?_) <;> first | exact AvLe.refl _ rfl | exact AvLe.nil _ | exact AvLe.znil _ | exact AvLe.list' (by simp [a, g, f, u, y, w, v, q]; done) (by simp [a, g, f, u, y, w, v, q]; done) | exact AvLe.eq (by simp [a, g, f, u, y, w, v, q]; done) rfl
          · first | (simp [a, g, f, u, y, w, v, q] <;> omega) | (have hq := q; simp at hq; simp [a, g, f, u, y, w, v, q, hq]; done) | skip
          · simp
          · simp [a, g, f, u, y, w, v, q]; rfl
          iterate 6
            refine regv_pure (s1 := ?_) rfl rfl ?_ ?_ ?_
            rotate_left
            · simp [a, g, f, u, y, w, v, q]; rfl
            · first | (simp [a, g, f, u, y, w, v, q] <;> omega) | (have hq := q; simp at hq; simp [a, g, f, u, y, w, v, q, hq]; done) | skip
          refine regv_nil ?_
          refine Wp.reg_seq (own := fun _ => false) tt_ok ?_
          iterate 3
            refine regv_pure (s1 := ?_) rfl rfl ?_ ?_ ?_
            rotate_left
            · simp [a, g, f, u, y, w, v, q]; rfl
            · first | (simp [a, g, f, u, y, w, v, q] <;> omega) | (have hq := q; simp at hq; simp [a, g, f, u, y, w, v, q, hq]; done) | skip
          obtain ⟨⟨cb, bk⟩, az, h⟩ := obind h
          dsimp only at h
          refine regv_call2 (s' := ?_) (p := ?_) (con_ref16_Coils az) rfl rfl rfl rfl ?_ ?_ ?_ ?_ ?_ ?_
          rotate_left 2
          · simp [a, g, f, u, y, w, v, q]; rfl
          · first | exact .inl rfl | (refine .inl ?_; simp [a, g, f, u, y, w, v, q]; done) | (refine .inr ?_; dsimp only; repeat' first | exact All2.nil | refine All2.cons ?_ ?_) <;> first | exact AvLe.refl _ rfl | exact AvLe.nil _ | exact AvLe.znil _ | exact AvLe.list' (by simp [a, g, f, u, y, w, v, q]; done) (by simp [a, g, f, u, y, w, v, q]; done) | exact AvLe.eq (by simp [a, g, f, u, y, w, v, q]; done) rfl
          · first | (simp [a, g, f, u, y, w, v, q] <;> omega) | (have hq := q; simp at hq; simp [a, g, f, u, y, w, v, q, hq]; done) | skip
          · simp
          · simp [a, g, f, u, y, w, v, q]; rfl
          iterate 6
            refine regv_pure (s1 := ?_) rfl rfl ?_ ?_ ?_
            rotate_left
            · simp [a, g, f, u, y, w, v, q]; rfl
            · first | (simp [a, g, f, u, y, w, v, q] <;> omega) | (have hq := q; simp at hq; simp [a, g, f, u, y, w, v, q, hq]; done) | skip
          refine regv_nil ?_
          refine Wp.reg_seq (own := fun _ => false) tt_ok ?_
          iterate 2
            refine regv_pure (s1 := ?_) rfl rfl ?_ ?_ ?_
            rotate_left
            · simp [a, g, f, u, y, w, v, q]; rfl
            · first | (simp [a, g, f, u, y, w, v, q] <;> omega) | (have hq := q; simp at hq; simp [a, g, f, u, y, w, v, q, hq]; done) | skip
          obtain ⟨bm, ba, h⟩ := obind h
          refine regv_call2 (s' := ?_) (p := ?_) (con_ref03_Equal ba) rfl rfl rfl rfl ?_ ?_ ?_ ?_ ?_ ?_
          rotate_left 2
          · simp [a, g, f, u, y, w, v, q]; rfl
          · first | exact .inl rfl | (refine .inl ?_; simp [a, g, f, u, y, w, v, q]; done) | (refine .inr ?_; dsimp only; repeat' first | exact All2.nil | refine All2.cons ?_ ?_) <;> first | exact AvLe.refl _ rfl | exact AvLe.nil _ | exact AvLe.znil _ | exact AvLe.list' (by simp [a, g, f, u, y, w, v, q]; done) (by simp [a, g, f, u, y, w, v, q]; done) | exact AvLe.eq (by simp [a, g, f, u, y, w, v, q]; done) rfl
          · first | (simp [a, g, f, u, y, w, v, q] <;> omega) | (have hq := q; simp at hq; simp [a, g, f, u, y, w, v, q, hq]; done) | skip
          · simp
          · simp [a, g, f, u, y, w, v, q]; rfl
          iterate 2
            refine regv_pure (s1 := ?_) rfl rfl ?_ ?_ ?_
            rotate_left
            · simp [a, g, f, u, y, w, v, q]; rfl
            · first | (simp [a, g, f, u, y, w, v, q] <;> omega) | (have hq := q; simp at hq; simp [a, g, f, u, y, w, v, q, hq]; done) | skip
          cases aa : (!bm)
          · rw [aa, if_neg (by simp)] at h
            refine regv_pure (s1 := ?_) rfl ?_ ?_ ?_ ?_
            rotate_left
            · simp [a, g, f, u, y, w, v, q, aa]; done
            · simp [a, g, f, u, y, w, v, q, aa]; rfl
            · first | (simp [a, g, f, u, y, w, v, q, aa] <;> omega) | (have hq := aa; simp at hq; simp [a, g, f, u, y, w, v, q, aa, hq]; done) | skip
            refine regv_pure (s1 := ?_) rfl ?_ ?_ ?_ ?_
            rotate_left
            · simp [a, g, f, u, y, w, v, q, aa]; done
            · simp [a, g, f, u, y, w, v, q, aa]; rfl
            · first | (simp [a, g, f, u, y, w, v, q, aa] <;> omega) | (have hq := aa; simp at hq; simp [a, g, f, u, y, w, v, q, aa, hq]; done) | skip
            refine regv_pure (s1 := ?_) rfl ?_ ?_ ?_ ?_
            rotate_left
            · simp [a, g, f, u, y, w, v, q, aa]; done
            · simp [a, g, f, u, y, w, v, q, aa]; rfl
            · first | (simp [a, g, f, u, y, w, v, q, aa] <;> omega) | (have hq := aa; simp at hq; simp [a, g, f, u, y, w, v, q, aa, hq]; done) | skip
            iterate 1
              refine regv_pure (s1 := ?_) rfl rfl ?_ ?_ ?_
              rotate_left
              · simp [a, g, f, u, y, w, v, q, aa]; rfl
              · first | (simp [a, g, f, u, y, w, v, q, aa] <;> omega) | (have hq := aa; simp at hq; simp [a, g, f, u, y, w, v, q, aa, hq]; done) | skip
            refine regv_nil ?_
            cases ad : (bj != bk)
            · rw [ad, if_neg (by simp)] at h
              refine Wp.cond false (by first | (simp [a, g, f, u, y, w, v, q, aa, ad] <;> omega) | (have hq := ad; simp at hq; simp [a, g, f, u, y, w, v, q, aa, ad, hq]; done)) (fun h0 => absurd h0 (by decide)) (fun _ => ?_)
              refine Wp.skip ?_
              show Wp _ _ _ _
              refine Wp.reg (own := fun _ => false) tt_ok ?_
              iterate 2
                refine regv_pure (s1 := ?_) rfl rfl ?_ ?_ ?_
                rotate_left
                · simp [a, g, f, u, y, w, v, q, aa, ad]; rfl
                · first | (simp [a, g, f, u, y, w, v, q, aa, ad] <;> omega) | (have hq := ad; simp at hq; simp [a, g, f, u, y, w, v, q, aa, ad, hq]; done) | skip
              refine regv_nil ?_
              refine next_mk (IntKind.i64.wrap (aj + 1)) h ?_
              refine Reloc.mk2 [some 0, some 1, some 2] rfl rfl rfl (by decide) ?_ ?_
              · repeat' first | exact objsLe_nil | refine objsLe_cons ?_ ?_
                all_goals first
                  | exact trivial
                  | (refine ObjLe.var' rfl rfl ?_ rfl
                     repeat' first | exact All2.nil | refine All2.cons ?_ ?_
                     all_goals first | (exact AvLe.refl _ rfl) | (exact AvLe.sl _ _ _ _ rfl) | (exact AvLe.hptr _ _ _ _ rfl) | (exact AvLe.mp _ _ rfl) | (exact AvLe.nil _) | (exact AvLe.znil _) | (exact AvLe.ghost _ rfl) | (exact AvLe.zghost _ rfl) | (exact AvLe.sl' rfl (by simp [a, g, f, u, y, w, v, q, aa, ad]; done) (by first | (simp [a, g, f, u, y, w, v, q, aa, ad] <;> omega) | omega)) | (exact AvLe.frz2 rfl (by simp) rfl (by simp [a, g, f, u, y, w, v, q, aa, ad]; done) (by simp [a, g, f, u, y, w, v, q, aa, ad]; done) (by simp [a, g, f, u, y, w, v, q, aa, ad]; done)) | (exact AvLe.list' (by simp [a, g, f, u, y, w, v, q, aa, ad]; done) (by simp [a, g, f, u, y, w, v, q, aa, ad]; done)) | (exact AvLe.eq (by simp [a, g, f, u, y, w, v, q, aa, ad]; done) rfl))
                  | (exact ObjLe.map' rfl rfl)
                  | (exact ObjLe.ghost' rfl (by decide))
                  | (exact ObjLe.arr' rfl rfl (by first | (simp [a, g, f, u, y, w, v, q, aa, ad] <;> omega)) (fun _ _ => by first | rfl | (simp [a, g, f, u, y, w, v, q, aa, ad]; done)))
                  | ((simp [a, g, f, u, y, w, v, q, aa, ad]; done))
              · repeat' first | exact chLe_nil | refine chLe_cons ?_ ?_
                all_goals first
                  | (exact AvLe.refl _ rfl)
                  | (exact AvLe.sl _ _ _ _ rfl)
                  | (exact AvLe.hptr _ _ _ _ rfl)
                  | (exact AvLe.mp _ _ rfl)
                  | (exact AvLe.nil _)
                  | (exact AvLe.znil _)
                  | (exact AvLe.ghost _ rfl)
                  | (exact AvLe.zghost _ rfl)
                  | (exact AvLe.sl' rfl (by simp [a, g, f, u, y, w, v, q, aa, ad]; done) (by first | (simp [a, g, f, u, y, w, v, q, aa, ad] <;> omega) | omega))
                  | (exact AvLe.frz2 rfl (by simp) rfl (by simp [a, g, f, u, y, w, v, q, aa, ad]; done) (by simp [a, g, f, u, y, w, v, q, aa, ad]; done) (by simp [a, g, f, u, y, w, v, q, aa, ad]; done))
                  | (exact AvLe.list' (by simp [a, g, f, u, y, w, v, q, aa, ad]; done) (by simp [a, g, f, u, y, w, v, q, aa, ad]; done))
                  | (exact AvLe.eq (by simp [a, g, f, u, y, w, v, q, aa, ad]; done) rfl)
            · rw [ad, if_pos rfl] at h
              refine Wp.cond true (by first | (simp [a, g, f, u, y, w, v, q, aa, ad] <;> omega) | (have hq := ad; simp at hq; simp [a, g, f, u, y, w, v, q, aa, ad, hq]; done)) (fun _ => ?_) (fun h0 => absurd h0 (by decide))
              refine Wp.reg_seq (own := fun _ => false) tt_ok ?_
              iterate 1
                refine regv_pure (s1 := ?_) rfl rfl ?_ ?_ ?_
                rotate_left
                · simp [a, g, f, u, y, w, v, q, aa, ad]; rfl
                · first | (simp [a, g, f, u, y, w, v, q, aa, ad] <;> omega) | (have hq := ad; simp at hq; simp [a, g, f, u, y, w, v, q, aa, ad, hq]; done) | skip
              refine regv_nil ?_
              cases h
              refine Wp.ret (endQ_ret0 rfl ?_)
              repeat' first | exact All2.nil | refine All2.cons ?_ ?_ | refine AvLe.tups ?_ | refine AvLe.aggs ?_
              all_goals first
                | (exact AvLe.refl _ rfl)
                | (exact AvLe.nil _)
                | (exact AvLe.znil _)
                | (exact AvLe.ghost _ rfl)
                | (exact AvLe.zghost _ rfl)
                | (exact AvLe.sl' rfl (by simp [a, g, f, u, y, w, v, q, aa, ad]; done) (by simp [a, g, f, u, y, w, v, q, aa, ad]; done))
                | (exact AvLe.frz' rfl rfl rfl (by simp [a, g, f, u, y, w, v, q, aa, ad]; done) (by simp [a, g, f, u, y, w, v, q, aa, ad]; done) (by simp [a, g, f, u, y, w, v, q, aa, ad]; done))
                | (exact AvLe.list' (by simp [a, g, f, u, y, w, v, q, aa, ad]; done) (by simp [a, g, f, u, y, w, v, q, aa, ad]; done))
                | (exact AvLe.eq (by simp [a, g, f, u, y, w, v, q, aa, ad]; done) rfl)
          · rw [aa, if_pos rfl] at h
            refine regv_skip (s1 := ?_) ?_ ?_ ?_
            rotate_left
            · simp [a, g, f, u, y, w, v, q, aa]; done
            · simp [a, g, f, u, y, w, v, q, aa]; rfl
            refine regv_skip (s1 := ?_) ?_ ?_ ?_
            rotate_left
            · simp [a, g, f, u, y, w, v, q, aa]; done
            · simp [a, g, f, u, y, w, v, q, aa]; rfl
            refine regv_skip (s1 := ?_) ?_ ?_ ?_
            rotate_left
            · simp [a, g, f, u, y, w, v, q, aa]; done
            · simp [a, g, f, u, y, w, v, q, aa]; rfl
            iterate 1
              refine regv_pure (s1 := ?_) rfl rfl ?_ ?_ ?_
              rotate_left
              · simp [a, g, f, u, y, w, v, q, aa]; rfl
              · first | (simp [a, g, f, u, y, w, v, q, aa] <;> omega) | (have hq := aa; simp at hq; simp [a, g, f, u, y, w, v, q, aa, hq]; done) | skip
            refine regv_nil ?_
            refine Wp.cond true (by first | (simp [a, g, f, u, y, w, v, q, aa] <;> omega) | (have hq := aa; simp at hq; simp [a, g, f, u, y, w, v, q, aa, hq]; done)) (fun _ => ?_) (fun h0 => absurd h0 (by decide))
            refine Wp.reg_seq (own := fun _ => false) tt_ok ?_
            iterate 1
              refine regv_pure (s1 := ?_) rfl rfl ?_ ?_ ?_
              rotate_left
              · simp [a, g, f, u, y, w, v, q, aa]; rfl
              · first | (simp [a, g, f, u, y, w, v, q, aa] <;> omega) | (have hq := aa; simp at hq; simp [a, g, f, u, y, w, v, q, aa, hq]; done) | skip
            refine regv_nil ?_
            cases h
            refine Wp.ret (endQ_ret0 rfl ?_)
            repeat' first | exact All2.nil | refine All2.cons ?_ ?_ | refine AvLe.tups ?_ | refine AvLe.aggs ?_
            all_goals first
              | (exact AvLe.refl _ rfl)
              | (exact AvLe.nil _)
              | (exact AvLe.znil _)
              | (exact AvLe.ghost _ rfl)
              | (exact AvLe.zghost _ rfl)
              | (exact AvLe.sl' rfl (by simp [a, g, f, u, y, w, v, q, aa]; done) (by simp [a, g, f, u, y, w, v, q, aa]; done))
              | (exact AvLe.frz' rfl rfl rfl (by simp [a, g, f, u, y, w, v, q, aa]; done) (by simp [a, g, f, u, y, w, v, q, aa]; done) (by simp [a, g, f, u, y, w, v, q, aa]; done))
              | (exact AvLe.list' (by simp [a, g, f, u, y, w, v, q, aa]; done) (by simp [a, g, f, u, y, w, v, q, aa]; done))
              | (exact AvLe.eq (by simp [a, g, f, u, y, w, v, q, aa]; done) rfl)
    · skip
      refine Wp.reg_seq (own := fun _ => false) tt_ok ?_
      iterate 1
        refine regv_pure (s1 := ?_) rfl rfl ?_ ?_ ?_
        rotate_left
        · simp [a]; rfl
        · first | (simp [a] <;> omega) | (have hq := a; simp at hq; simp [a, hq]; done) | skip
      obtain ⟨ai, ao, h⟩ := obind h
      have d := congrArg (List.map (cI .i64)) (Option.some.inj ao)
      have b := (congrArg List.length (Option.some.inj ao)).symm
      try simp [a] at d
      try simp [a] at b
      clear ao
      try simp only [d]
      iterate 2
        refine regv_pure (s1 := ?_) rfl rfl ?_ ?_ ?_
        rotate_left
        · simp [a, d, b]; rfl
        · first | (simp [a, d, b] <;> omega) | (have hq := b; simp at hq; simp [a, d, b, hq]; done) | skip
      refine regv_nil ?_
      refine Wp.block ?_
      refine Wp.loopF (α := Int) (fun x => law16_RungevalScanMatchesReference_S4 n _append0 a1 a2 af ai x) (fun m x => law16_RungevalScanMatchesReference_L4 n _append0 a1 a2 af ai m x = some r) (fun _ h => by cases h) ?_ n 0 h ?_
      rotate_left
      · simp only [law16_RungevalScanMatchesReference_S4]
        refine Reloc.mk2 [some 0, some 1, some 2] rfl rfl rfl (by decide) ?_ ?_
        · repeat' first | exact objsLe_nil | refine objsLe_cons ?_ ?_
          all_goals first
            | exact trivial
            | (refine ObjLe.var' rfl rfl ?_ rfl
               repeat' first | exact All2.nil | refine All2.cons ?_ ?_
               all_goals first | (exact AvLe.refl _ rfl) | (exact AvLe.sl _ _ _ _ rfl) | (exact AvLe.hptr _ _ _ _ rfl) | (exact AvLe.mp _ _ rfl) | (exact AvLe.nil _) | (exact AvLe.znil _) | (exact AvLe.ghost _ rfl) | (exact AvLe.zghost _ rfl) | (exact AvLe.sl' rfl (by simp [a, d, b]; done) (by first | (simp [a, d, b] <;> omega) | omega)) | (exact AvLe.frz2 rfl (by simp) rfl (by simp [a, d, b]; done) (by simp [a, d, b]; done) (by simp [a, d, b]; done)) | (exact AvLe.list' (by simp [a, d, b]; done) (by simp [a, d, b]; done)) | (exact AvLe.eq (by simp [a, d, b]; done) rfl))
            | (exact ObjLe.map' rfl rfl)
            | (exact ObjLe.ghost' rfl (by decide))
            | (exact ObjLe.arr' rfl rfl (by first | (simp [a, d, b] <;> omega)) (fun _ _ => by first | rfl | (simp [a, d, b]; done)))
            | ((simp [a, d, b]; done))
        · repeat' first | exact chLe_nil | refine chLe_cons ?_ ?_
          all_goals first
            | (exact AvLe.refl _ rfl)
            | (exact AvLe.sl _ _ _ _ rfl)
            | (exact AvLe.hptr _ _ _ _ rfl)
            | (exact AvLe.mp _ _ rfl)
            | (exact AvLe.nil _)
            | (exact AvLe.znil _)
            | (exact AvLe.ghost _ rfl)
            | (exact AvLe.zghost _ rfl)
            | (exact AvLe.sl' rfl (by simp [a, d, b]; done) (by first | (simp [a, d, b] <;> omega) | omega))
            | (exact AvLe.frz2 rfl (by simp) rfl (by simp [a, d, b]; done) (by simp [a, d, b]; done) (by simp [a, d, b]; done))
            | (exact AvLe.list' (by simp [a, d, b]; done) (by simp [a, d, b]; done))
            | (exact AvLe.eq (by simp [a, d, b]; done) rfl)
      rintro rec_n4 ak h
      simp only [law16_RungevalScanMatchesReference_S4]
      dsimp only [law16_RungevalScanMatchesReference_L4] at h
      refine Wp.reg_seq (own := fun _ => false) tt_ok ?_
      iterate 1
        refine regv_pure (s1 := ?_) rfl rfl ?_ ?_ ?_
        rotate_left
        · simp [a, d, b]; rfl
        · first | (simp [a, d, b] <;> omega) | (have hq := b; simp at hq; simp [a, d, b, hq]; done) | skip
      refine regv_nil ?_
      refine Wp.seq ?_
      refine (Decidable.em (ak < (ai.length : Int))).symm.elim (fun j => ?_) (fun j => ?_)
      · rw [if_neg (by simpa using j)] at h
        refine Wp.cond false (by first | (simp [a, d, b, j] <;> omega) | (have hq := j; simp at hq; simp [a, d, b, j, hq]; done)) (fun h0 => absurd h0 (by decide)) (fun _ => ?_)
        refine Wp.exit ?_
        refine next_mk () h ?_
        refine Reloc.mk2 [some 0, some 1, some 2] rfl rfl rfl (by decide) ?_ ?_
        · repeat' first | exact objsLe_nil | refine objsLe_cons ?_ ?_
          all_goals first
            | exact trivial
            | (refine ObjLe.var' rfl rfl ?_ rfl
               repeat' first | exact All2.nil | refine All2.cons ?_ ?_
               all_goals first | (exact AvLe.refl _ rfl) | (exact AvLe.sl _ _ _ _ rfl) | (exact AvLe.hptr _ _ _ _ rfl) | (exact AvLe.mp _ _ rfl) | (exact AvLe.nil _) | (exact AvLe.znil _) | (exact AvLe.ghost _ rfl) | (exact AvLe.zghost _ rfl) | (exact AvLe.sl' rfl (by simp [a, d, b, j]; done) (by first | (simp [a, d, b, j] <;> omega) | omega)) | (exact AvLe.frz2 rfl (by simp) rfl (by simp [a, d, b, j]; done) (by simp [a, d, b, j]; done) (by simp [a, d, b, j]; done)) | (exact AvLe.list' (by simp [a, d, b, j]; done) (by simp [a, d, b, j]; done)) | (exact AvLe.eq (by simp [a, d, b, j]; done) rfl))
            | (exact ObjLe.map' rfl rfl)
            | (exact ObjLe.ghost' rfl (by decide))
            | (exact ObjLe.arr' rfl rfl (by first | (simp [a, d, b, j] <;> omega)) (fun _ _ => by first | rfl | (simp [a, d, b, j]; done)))
            | ((simp [a, d, b, j]; done))
        · repeat' first | exact chLe_nil | refine chLe_cons ?_ ?_
          all_goals first
            | (exact AvLe.refl _ rfl)
            | (exact AvLe.sl _ _ _ _ rfl)
            | (exact AvLe.hptr _ _ _ _ rfl)
            | (exact AvLe.mp _ _ rfl)
            | (exact AvLe.nil _)
            | (exact AvLe.znil _)
            | (exact AvLe.ghost _ rfl)
            | (exact AvLe.zghost _ rfl)
            | (exact AvLe.sl' rfl (by simp [a, d, b, j]; done) (by first | (simp [a, d, b, j] <;> omega) | omega))
            | (exact AvLe.frz2 rfl (by simp) rfl (by simp [a, d, b, j]; done) (by simp [a, d, b, j]; done) (by simp [a, d, b, j]; done))
            | (exact AvLe.list' (by simp [a, d, b, j]; done) (by simp [a, d, b, j]; done))
            | (exact AvLe.eq (by simp [a, d, b, j]; done) rfl)
      · rw [if_pos (decide_eq_true j)] at h
        refine Wp.cond true (by first | (simp [a, d, b, j] <;> omega) | (have hq := j; simp at hq; simp [a, d, b, j, hq]; done)) (fun _ => ?_) (fun h0 => absurd h0 (by decide))
        refine Wp.skip ?_
        show Wp _ _ _ _
        refine Wp.seq ?_
        refine Wp.block ?_
        refine Wp.reg_seq (own := fun _ => false) tt_ok ?_
        obtain ⟨cc, bb, h⟩ := obind h
        obtain ⟨o, k, i⟩ := atI_some bb
        try simp [a, d, b, j] at k
        try simp only [Int.toNat_natCast, Int.reduceToNat, Nat.zero_add, Nat.add_zero] at i
        have e := getElem_of i
        iterate 3
          refine regv_pure (s1 := ?_) rfl rfl ?_ ?_ ?_
          rotate_left
          · simp [a, d, b, j, o, k, i, e]; rfl
          · first | (simp [a, d, b, j, o, k, i, e] <;> omega) | (have hq := e; simp at hq; simp [a, d, b, j, o, k, i, e, hq]; done) | skip
        refine regv_nil ?_
        refine Wp.reg_seq (own := fun _ => false) tt_ok ?_
        iterate 4
          refine regv_pure (s1 := ?_) rfl rfl ?_ ?_ ?_
          rotate_left
          · simp [a, d, b, j, o, k, i, e]; rfl
          · first | (simp [a, d, b, j, o, k, i, e] <;> omega) | (have hq := e; simp at hq; simp [a, d, b, j, o, k, i, e, hq]; done) | skip
        obtain ⟨⟨cd, bo, bp⟩, bc, h⟩ := obind h
        dsimp only at h
        refine regv_call2 (s' := ?_) (p := ?_) (con_rungeval_Scan bc) rfl rfl rfl rfl ?_ ?_ ?_ ?_ ?_ ?_
        rotate_left 2
        · simp [a, d, b, j, o, k, i, e]; rfl
        · first | exact .inl rfl | (refine .inl ?_; simp [a, d, b, j, o, k, i, e]; done) | (refine .inr ?_; dsimp only; repeat' first | exact All2.nil | refine All2.cons ?_ ?_) <;> first | exact AvLe.refl _ rfl | exact AvLe.nil _ | exact AvLe.znil _ | exact AvLe.list' (by simp [a, d, b, j, o, k, i, e]; done) (by simp [a, d, b, j, o, k, i, e]; done) | exact AvLe.eq (by simp [a, d, b, j, o, k, i, e]; done) rfl
        · first | (simp [a, d, b, j, o, k, i, e] <;> omega) | (have hq := e; simp at hq; simp [a, d, b, j, o, k, i, e, hq]; done) | skip
        · simp
        · simp [a, d, b, j, o, k, i, e]; rfl
        iterate 8
          refine regv_pure (s1 := ?_) rfl rfl ?_ ?_ ?_
          rotate_left
          · simp [a, d, b, j, o, k, i, e]; rfl
          · first | (simp [a, d, b, j, o, k, i, e] <;> omega) | (have hq := e; simp at hq; simp [a, d, b, j, o, k, i, e, hq]; done) | skip
        refine regv_nil ?_
        refine Wp.reg_seq (own := fun _ => false) tt_ok ?_
        iterate 4
          refine regv_pure (s1 := ?_) rfl rfl ?_ ?_ ?_
          rotate_left
          · simp [a, d, b, j, o, k, i, e]; rfl
          · first | (simp [a, d, b, j, o, k, i, e] <;> omega) | (have hq := e; simp at hq; simp [a, d, b, j, o, k, i, e, hq]; done) | skip
        obtain ⟨⟨ce, bq, bu⟩, bd, h⟩ := obind h
        dsimp only at h
        refine regv_call2 (s' := ?_) (p := ?_) (con_ref16_Scan bd) rfl rfl rfl rfl ?_ ?_ ?_ ?_ ?_ ?_
        rotate_left 2
        · simp [a, d, b, j, o, k, i, e]; rfl
        · first | exact .inl rfl | (refine .inl ?_; simp [a, d, b, j, o, k, i, e]; done) | (refine .inr ?_; dsimp only; repeat' first | exact All2.nil | refine All2.cons ?_ ?_) <;> first | exact AvLe.refl _ rfl | exact AvLe.nil _ | exact AvLe.znil _ | exact AvLe.list' (by simp [a, d, b, j, o, k, i, e]; done) (by simp [a, d, b, j, o, k, i, e]; done) | exact AvLe.eq (by simp [a, d, b, j, o, k, i, e]; done) rfl
        · first | (simp [a, d, b, j, o, k, i, e] <;> omega) | (have hq := e; simp at hq; simp [a, d, b, j, o, k, i, e, hq]; done) | skip
        · simp
        · simp [a, d, b, j, o, k, i, e]; rfl
        iterate 8
          refine regv_pure (s1 := ?_) rfl rfl ?_ ?_ ?_
          rotate_left
          · simp [a, d, b, j, o, k, i, e]; rfl
          · first | (simp [a, d, b, j, o, k, i, e] <;> omega) | (have hq := e; simp at hq; simp [a, d, b, j, o, k, i, e, hq]; done) | skip
        refine regv_nil ?_
        refine Wp.reg_seq (own := fun _ => false) tt_ok ?_
        iterate 2
          refine regv_pure (s1 := ?_) rfl rfl ?_ ?_ ?_
          rotate_left
          · simp [a, d, b, j, o, k, i, e]; rfl
          · first | (simp [a, d, b, j, o, k, i, e] <;> omega) | (have hq := e; simp at hq; simp [a, d, b, j, o, k, i, e, hq]; done) | skip
        obtain ⟨bv, be, h⟩ := obind h
        refine regv_call2 (s' := ?_) (p := ?_) (con_ref03_Equal be) rfl rfl rfl rfl ?_ ?_ ?_ ?_ ?_ ?_
        rotate_left 2
        · simp [a, d, b, j, o, k, i, e]; rfl
        · first | exact .inl rfl | (refine .inl ?_; simp [a, d, b, j, o, k, i, e]; done) | (refine .inr ?_; dsimp only; repeat' first | exact All2.nil | refine All2.cons ?_ ?_) <;> first | exact AvLe.refl _ rfl | exact AvLe.nil _ | exact AvLe.znil _ | exact AvLe.list' (by simp [a, d, b, j, o, k, i, e]; done) (by simp [a, d, b, j, o, k, i, e]; done) | exact AvLe.eq (by simp [a, d, b, j, o, k, i, e]; done) rfl
        · first | (simp [a, d, b, j, o, k, i, e] <;> omega) | (have hq := e; simp at hq; simp [a, d, b, j, o, k, i, e, hq]; done) | skip
        · simp
        · simp [a, d, b, j, o, k, i, e]; rfl
        iterate 2
          refine regv_pure (s1 := ?_) rfl rfl ?_ ?_ ?_
          rotate_left
          · simp [a, d, b, j, o, k, i, e]; rfl
          · first | (simp [a, d, b, j, o, k, i, e] <;> omega) | (have hq := e; simp at hq; simp [a, d, b, j, o, k, i, e, hq]; done) | skip
        cases z : (!bv)
        · rw [z, if_neg (by simp)] at h
          refine regv_pure (s1 := ?_) rfl ?_ ?_ ?_ ?_
          rotate_left
          · simp [a, d, b, j, o, k, i, e, z]; done
          · simp [a, d, b, j, o, k, i, e, z]; rfl
          · first | (simp [a, d, b, j, o, k, i, e, z] <;> omega) | (have hq := z; simp at hq; simp [a, d, b, j, o, k, i, e, z, hq]; done) | skip
          refine regv_pure (s1 := ?_) rfl ?_ ?_ ?_ ?_
          rotate_left
          · simp [a, d, b, j, o, k, i, e, z]; done
          · simp [a, d, b, j, o, k, i, e, z]; rfl
          · first | (simp [a, d, b, j, o, k, i, e, z] <;> omega) | (have hq := z; simp at hq; simp [a, d, b, j, o, k, i, e, z, hq]; done) | skip
          refine regv_pure (s1 := ?_) rfl ?_ ?_ ?_ ?_
          rotate_left
          · simp [a, d, b, j, o, k, i, e, z]; done
          · simp [a, d, b, j, o, k, i, e, z]; rfl
          · first | (simp [a, d, b, j, o, k, i, e, z] <;> omega) | (have hq := z; simp at hq; simp [a, d, b, j, o, k, i, e, z, hq]; done) | skip
          iterate 2
            refine regv_pure (s1 := ?_) rfl rfl ?_ ?_ ?_
            rotate_left
            · simp [a, d, b, j, o, k, i, e, z]; rfl
            · first | (simp [a, d, b, j, o, k, i, e, z] <;> omega) | (have hq := z; simp at hq; simp [a, d, b, j, o, k, i, e, z, hq]; done) | skip
          cases ab : (!(bo == bq))
          · rw [ab, if_neg (by simp)] at h
            refine regv_pure (s1 := ?_) rfl ?_ ?_ ?_ ?_
            rotate_left
            · simp [a, d, b, j, o, k, i, e, z, ab]; done
            · simp [a, d, b, j, o, k, i, e, z, ab]; rfl
            · first | (simp [a, d, b, j, o, k, i, e, z, ab] <;> omega) | (have hq := ab; simp at hq; simp [a, d, b, j, o, k, i, e, z, ab, hq]; done) | skip
            refine regv_pure (s1 := ?_) rfl ?_ ?_ ?_ ?_
            rotate_left
            · simp [a, d, b, j, o, k, i, e, z, ab]; done
            · simp [a, d, b, j, o, k, i, e, z, ab]; rfl
            · first | (simp [a, d, b, j, o, k, i, e, z, ab] <;> omega) | (have hq := ab; simp at hq; simp [a, d, b, j, o, k, i, e, z, ab, hq]; done) | skip
            refine regv_pure (s1 := ?_) rfl ?_ ?_ ?_ ?_
            rotate_left
            · simp [a, d, b, j, o, k, i, e, z, ab]; done
            · simp [a, d, b, j, o, k, i, e, z, ab]; rfl
            · first | (simp [a, d, b, j, o, k, i, e, z, ab] <;> omega) | (have hq := ab; simp at hq; simp [a, d, b, j, o, k, i, e, z, ab, hq]; done) | skip
            iterate 1
              refine regv_pure (s1 := ?_) rfl rfl ?_ ?_ ?_
              rotate_left
              · simp [a, d, b, j, o, k, i, e, z, ab]; rfl
              · first | (simp [a, d, b, j, o, k, i, e, z, ab] <;> omega) | (have hq := ab; simp at hq; simp [a, d, b, j, o, k, i, e, z, ab, hq]; done) | skip
            refine regv_nil ?_
            cases ae : (bp != bu)
            · rw [ae, if_neg (by simp)] at h
              refine Wp.cond false (by first | (simp [a, d, b, j, o, k, i, e, z, ab, ae] <;> omega) | (have hq := ae; simp at hq; simp [a, d, b, j, o, k, i, e, z, ab, ae, hq]; done)) (fun h0 => absurd h0 (by decide)) (fun _ => ?_)
              refine Wp.skip ?_
              show Wp _ _ _ _
              refine Wp.reg (own := fun _ => false) tt_ok ?_
              iterate 2
                refine regv_pure (s1 := ?_) rfl rfl ?_ ?_ ?_
                rotate_left
                · simp [a, d, b, j, o, k, i, e, z, ab, ae]; rfl
                · first | (simp [a, d, b, j, o, k, i, e, z, ab, ae] <;> omega) | (have hq := ae; simp at hq; simp [a, d, b, j, o, k, i, e, z, ab, ae, hq]; done) | skip
              refine regv_nil ?_
              refine next_mk (IntKind.i64.wrap (ak + 1)) h ?_
              refine Reloc.mk2 [some 0, some 1, some 2] rfl rfl rfl (by decide) ?_ ?_
              · repeat' first | exact objsLe_nil | refine objsLe_cons ?_ ?_
                all_goals first
                  | exact trivial
                  | (refine ObjLe.var' rfl rfl ?_ rfl
                     repeat' first | exact All2.nil | refine All2.cons ?_ ?_
                     all_goals first | (exact AvLe.refl _ rfl) | (exact AvLe.sl _ _ _ _ rfl) | (exact AvLe.hptr _ _ _ _ rfl) | (exact AvLe.mp _ _ rfl) | (exact AvLe.nil _) | (exact AvLe.znil _) | (exact AvLe.ghost _ rfl) | (exact AvLe.zghost _ rfl) | (exact AvLe.sl' rfl (by simp [a, d, b, j, o, k, i, e, z, ab, ae]; done) (by first | (simp [a, d, b, j, o, k, i, e, z, ab, ae] <;> omega) | omega)) | (exact AvLe.frz2 rfl (by simp) rfl (by simp [a, d, b, j, o, k, i, e, z, ab, ae]; done) (by simp [a, d, b, j, o, k, i, e, z, ab, ae]; done) (by simp [a, d, b, j, o, k, i, e, z, ab, ae]; done)) | (exact AvLe.list' (by simp [a, d, b, j, o, k, i, e, z, ab, ae]; done) (by simp [a, d, b, j, o, k, i, e, z, ab, ae]; done)) | (exact AvLe.eq (by simp [a, d, b, j, o, k, i, e, z, ab, ae]; done) rfl))
                  | (exact ObjLe.map' rfl rfl)
                  | (exact ObjLe.ghost' rfl (by decide))
                  | (exact ObjLe.arr' rfl rfl (by first | (simp [a, d, b, j, o, k, i, e, z, ab, ae] <;> omega)) (fun _ _ => by first | rfl | (simp [a, d, b, j, o, k, i, e, z, ab, ae]; done)))
                  | ((simp [a, d, b, j, o, k, i, e, z, ab, ae]; done))
              · repeat' first | exact chLe_nil | refine chLe_cons ?_ ?_
                all_goals first
                  | (exact AvLe.refl _ rfl)
                  | (exact AvLe.sl _ _ _ _ rfl)
                  | (exact AvLe.hptr _ _ _ _ rfl)
                  | (exact AvLe.mp _ _ rfl)
                  | (exact AvLe.nil _)
                  | (exact AvLe.znil _)
                  | (exact AvLe.ghost _ rfl)
                  | (exact AvLe.zghost _ rfl)
                  | (exact AvLe.sl' rfl (by simp [a, d, b, j, o, k, i, e, z, ab, ae]; done) (by first | (simp [a, d, b, j, o, k, i, e, z, ab, ae] <;> omega) | omega))
                  | (exact AvLe.frz2 rfl (by simp) rfl (by simp [a, d, b, j, o, k, i, e, z, ab, ae]; done) (by simp [a, d, b, j, o, k, i, e, z, ab, ae]; done) (by simp [a, d, b, j, o, k, i, e, z, ab, ae]; done))
                  | (exact AvLe.list' (by simp [a, d, b, j, o, k, i, e, z, ab, ae]; done) (by simp [a, d, b, j, o, k, i, e, z, ab, ae]; done))
                  | (exact AvLe.eq (by simp [a, d, b, j, o, k, i, e, z, ab, ae]; done) rfl)
            · rw [ae, if_pos rfl] at h
              refine Wp.cond true (by first | (simp [a, d, b, j, o, k, i, e, z, ab, ae] <;> omega) | (have hq := ae; simp at hq; simp [a, d, b, j, o, k, i, e, z, ab, ae, hq]; done)) (fun _ => ?_) (fun h0 => absurd h0 (by decide))
              refine Wp.reg_seq (own := fun _ => false) tt_ok ?_
              iterate 1
                refine regv_pure (s1 := ?_) rfl rfl ?_ ?_ ?_
                rotate_left
                · simp [a, d, b, j, o, k, i, e, z, ab, ae]; rfl
                · first | (simp [a, d, b, j, o, k, i, e, z, ab, ae] <;> omega) | (have hq := ae; simp at hq; simp [a, d, b, j, o, k, i, e, z, ab, ae, hq]; done) | skip
              refine regv_nil ?_
              cases h
              refine Wp.ret (endQ_ret0 rfl ?_)
              repeat' first | exact All2.nil | refine All2.cons ?_ ?_ | refine AvLe.tups ?_ | refine AvLe.aggs ?_
              all_goals first
                | (exact AvLe.refl _ rfl)
                | (exact AvLe.nil _)
                | (exact AvLe.znil _)
                | (exact AvLe.ghost _ rfl)
                | (exact AvLe.zghost _ rfl)
                | (exact AvLe.sl' rfl (by simp [a, d, b, j, o, k, i, e, z, ab, ae]; done) (by simp [a, d, b, j, o, k, i, e, z, ab, ae]; done))
                | (exact AvLe.frz' rfl rfl rfl (by simp [a, d, b, j, o, k, i, e, z, ab, ae]; done) (by simp [a, d, b, j, o, k, i, e, z, ab, ae]; done) (by simp [a, d, b, j, o, k, i, e, z, ab, ae]; done))
                | (exact AvLe.list' (by simp [a, d, b, j, o, k, i, e, z, ab, ae]; done) (by simp [a, d, b, j, o, k, i, e, z, ab, ae]; done))
                | (exact AvLe.eq (by simp [a, d, b, j, o, k, i, e, z, ab, ae]; done) rfl)
          · rw [ab, if_pos rfl] at h
            refine regv_skip (s1 := ?_) ?_ ?_ ?_
            rotate_left
            · simp [a, d, b, j, o, k, i, e, z, ab]; done
            · simp [a, d, b, j, o, k, i, e, z, ab]; rfl
            refine regv_skip (s1 := ?_) ?_ ?_ ?_
            rotate_left
            · simp [a, d, b, j, o, k, i, e, z, ab]; done
            · simp [a, d, b, j, o, k, i, e, z, ab]; rfl
            refine regv_skip (s1 := ?_) ?_ ?_ ?_
            rotate_left
            · simp [a, d, b, j, o, k, i, e, z, ab]; done
            · simp [a, d, b, j, o, k, i, e, z, ab]; rfl
            iterate 1
              refine regv_pure (s1 := ?_) rfl rfl ?_ ?_ ?_
              rotate_left
              · simp [a, d, b, j, o, k, i, e, z, ab]; rfl
              · first | (simp [a, d, b, j, o, k, i, e, z, ab] <;> omega) | (have hq := ab; simp at hq; simp [a, d, b, j, o, k, i, e, z, ab, hq]; done) | skip
            refine regv_nil ?_
            refine Wp.cond true (by first | (simp [a, d, b, j, o, k, i, e, z, ab] <;> omega) | (have hq := ab; simp at hq; simp [a, d, b, j, o, k, i, e, z, ab, hq]; done)) (fun _ => ?_) (fun h0 => absurd h0 (by decide))
            refine Wp.reg_seq (own := fun _ => false) tt_ok ?_
            iterate 1
              refine regv_pure (s1 := ?_) rfl rfl ?_ ?_ ?_
              rotate_left
              · simp [a, d, b, j, o, k, i, e, z, ab]; rfl
              · first | (simp [a, d, b, j, o, k, i, e, z, ab] <;> omega) | (have hq := ab; simp at hq; simp [a, d, b, j, o, k, i, e, z, ab, hq]; done) | skip
            refine regv_nil ?_
            cases h
            refine Wp.ret (endQ_ret0 rfl ?_)
            repeat' first | exact All2.nil | refine All2.cons ?_ ?_ | refine AvLe.tups ?_ | refine AvLe.aggs ?_
            all_goals first
              | (exact AvLe.refl _ rfl)
              | (exact AvLe.nil _)
              | (exact AvLe.znil _)
              | (exact AvLe.ghost _ rfl)
              | (exact AvLe.zghost _ rfl)
              | (exact AvLe.sl' rfl (by simp [a, d, b, j, o, k, i, e, z, ab]; done) (by simp [a, d, b, j, o, k, i, e, z, ab]; done))
              | (exact AvLe.frz' rfl rfl rfl (by simp [a, d, b, j, o, k, i, e, z, ab]; done) (by simp [a, d, b, j, o, k, i, e, z, ab]; done) (by simp [a, d, b, j, o, k, i, e, z, ab]; done))
              | (exact AvLe.list' (by simp [a, d, b, j, o, k, i, e, z, ab]; done) (by simp [a, d, b, j, o, k, i, e, z, ab]; done))
              | (exact AvLe.eq (by simp [a, d, b, j, o, k, i, e, z, ab]; done) rfl)
        · rw [z, if_pos rfl] at h
          refine regv_skip (s1 := ?_) ?_ ?_ ?_
          rotate_left
          · simp [a, d, b, j, o, k, i, e, z]; done
          · simp [a, d, b, j, o, k, i, e, z]; rfl
          refine regv_skip (s1 := ?_) ?_ ?_ ?_
          rotate_left
          · simp [a, d, b, j, o, k, i, e, z]; done
          · simp [a, d, b, j, o, k, i, e, z]; rfl
          refine regv_skip (s1 := ?_) ?_ ?_ ?_
          rotate_left
          · simp [a, d, b, j, o, k, i, e, z]; done
          · simp [a, d, b, j, o, k, i, e, z]; rfl
          iterate 2
            refine regv_pure (s1 := ?_) rfl rfl ?_ ?_ ?_
            rotate_left
            · simp [a, d, b, j, o, k, i, e, z]; rfl
            · first | (simp [a, d, b, j, o, k, i, e, z] <;> omega) | (have hq := z; simp at hq; simp [a, d, b, j, o, k, i, e, z, hq]; done) | skip
          refine regv_skip (s1 := ?_) ?_ ?_ ?_
          rotate_left
          · simp [a, d, b, j, o, k, i, e, z]; done
          · simp [a, d, b, j, o, k, i, e, z]; rfl
          refine regv_skip (s1 := ?_) ?_ ?_ ?_
          rotate_left
          · simp [a, d, b, j, o, k, i, e, z]; done
          · simp [a, d, b, j, o, k, i, e, z]; rfl
          refine regv_skip (s1 := ?_) ?_ ?_ ?_
          rotate_left
          · simp [a, d, b, j, o, k, i, e, z]; done
          · simp [a, d, b, j, o, k, i, e, z]; rfl
          iterate 1
            refine regv_pure (s1 := ?_) rfl rfl ?_ ?_ ?_
            rotate_left
            · simp [a, d, b, j, o, k, i, e, z]; rfl
            · first | (simp [a, d, b, j, o, k, i, e, z] <;> omega) | (have hq := z; simp at hq; simp [a, d, b, j, o, k, i, e, z, hq]; done) | skip
          refine regv_nil ?_
          refine Wp.cond true (by first | (simp [a, d, b, j, o, k, i, e, z] <;> omega) | (have hq := z; simp at hq; simp [a, d, b, j, o, k, i, e, z, hq]; done)) (fun _ => ?_) (fun h0 => absurd h0 (by decide))
          refine Wp.reg_seq (own := fun _ => false) tt_ok ?_
          iterate 1
            refine regv_pure (s1 := ?_) rfl rfl ?_ ?_ ?_
            rotate_left
            · simp [a, d, b, j, o, k, i, e, z]; rfl
            · first | (simp [a, d, b, j, o, k, i, e, z] <;> omega) | (have hq := z; simp at hq; simp [a, d, b, j, o, k, i, e, z, hq]; done) | skip
          refine regv_nil ?_
          cases h
          refine Wp.ret (endQ_ret0 rfl ?_)
          repeat' first | exact All2.nil | refine All2.cons ?_ ?_ | refine AvLe.tups ?_ | refine AvLe.aggs ?_
          all_goals first
            | (exact AvLe.refl _ rfl)
            | (exact AvLe.nil _)
            | (exact AvLe.znil _)
            | (exact AvLe.ghost _ rfl)
            | (exact AvLe.zghost _ rfl)
            | (exact AvLe.sl' rfl (by simp [a, d, b, j, o, k, i, e, z]; done) (by simp [a, d, b, j, o, k, i, e, z]; done))
            | (exact AvLe.frz' rfl rfl rfl (by simp [a, d, b, j, o, k, i, e, z]; done) (by simp [a, d, b, j, o, k, i, e, z]; done) (by simp [a, d, b, j, o, k, i, e, z]; done))
            | (exact AvLe.list' (by simp [a, d, b, j, o, k, i, e, z]; done) (by simp [a, d, b, j, o, k, i, e, z]; done))
            | (exact AvLe.eq (by simp [a, d, b, j, o, k, i, e, z]; done) rfl)
  · rw [a, if_pos rfl] at h
    refine Wp.cond true (by first | (simp [a] <;> omega) | (have hq := a; simp at hq; simp [a, hq]; done)) (fun _ => ?_) (fun h0 => absurd h0 (by decide))
    refine Wp.reg_seq (own := fun _ => false) tt_ok ?_
    obtain ⟨cf, bf, h⟩ := obind h
    refine regv_call2 (s' := ?_) (p := ?_) (con_law16_alive bf) rfl rfl rfl rfl ?_ ?_ ?_ ?_ ?_ ?_
    rotate_left 2
    · simp [a]; rfl
    · first | exact .inl rfl | (refine .inl ?_; simp [a]; done) | (refine .inr ?_; dsimp only; repeat' first | exact All2.nil | refine All2.cons ?_ ?_) <;> first | exact AvLe.refl _ rfl | exact AvLe.nil _ | exact AvLe.znil _ | exact AvLe.list' (by simp [a]; done) (by simp [a]; done) | exact AvLe.eq (by simp [a]; done) rfl
    · first | (simp [a] <;> omega) | (have hq := a; simp at hq; simp [a, hq]; done) | skip
    · simp
    · simp [a]; rfl
    iterate 1
      refine regv_pure (s1 := ?_) rfl rfl ?_ ?_ ?_
      rotate_left
      · simp [a]; rfl
      · first | (simp [a] <;> omega) | (have hq := a; simp at hq; simp [a, hq]; done) | skip
    refine regv_nil ?_
    cases h
    refine Wp.ret (endQ_ret0 rfl ?_)
    repeat' first | exact All2.nil | refine All2.cons ?_ ?_ | refine AvLe.tups ?_ | refine AvLe.aggs ?_
    all_goals first
      | (exact AvLe.refl _ rfl)
      | (exact AvLe.nil _)
      | (exact AvLe.znil _)
      | (exact AvLe.ghost _ rfl)
      | (exact AvLe.zghost _ rfl)
      | (exact AvLe.sl' rfl (by simp [a]; done) (by simp [a]; done))
      | (exact AvLe.frz' rfl rfl rfl (by simp [a]; done) (by simp [a]; done) (by simp [a]; done))
      | (exact AvLe.list' (by simp [a]; done) (by simp [a]; done))
      | (exact AvLe.eq (by simp [a]; done) rfl)

end Go.Proofs.Ytgbgmijighbfbaa

/- Contracts: models of functions are right. No law is proved here. -/
import Derived.Test.YtgbgmijighbfbaaGC1
namespace Go.Proofs.Ytgbgmijighbfbaa
open Go.Av Go.G
attribute [local simp] runf guardA opf St.ev Go.Av.look St.setd constAV constAV0 opBin opLen intBin St.need lookT TT0 tab resA resOne resAll blt_dec ble_dec beq_dec isPure
attribute [local simp] opMakeSlice opCopy opIndexAddr opLoad opStore St.mem St.rows opUn calleeA toArgs toArg toArg0 toArgs0 shift shift0 shift1 splice cellsOf isFree ofCells TS.isAgg isCell strBin opConvert
attribute [local simp] opBuildSlice fillA opAppend eqC eqA cksB ckB St.newBox runI valKind withinB readsHp refsD refs noSl opFieldAddr opBuild placeOf Op.operands Call.operands opIndex opExtract opSlice opField partA
attribute [local simp] loA hiA lenA opMakeMap opLookup opMapUpdate keyOk findA_int findA_str putA_strB putA_strI putA_intB mAV_length mAV_nil
attribute [local simp] aL cI cB cS cL rw_map fz_rw fz_const dropRow_rw fz_append fz_set fz_copy fz_rows rowLen_rw rowsLen_nil rowsLen_cons rowsLen_append rowsLen_map rowsLen_take rowsLen_drop rowsLen_replicate take_map_len take_map_le drop_map_len take_drop_len chunks isScalar isScalar0
attribute [local congr] bind_congr1 map_congr1 cond_congr1
attribute [local simp] cApiAddr cApiContact cApiCoil cApiRung cApiState
set_option maxHeartbeats 4000000
set_option linter.unusedSimpArgs false
set_option linter.unusedVariables false

def law16_RungevalContactsMatchReference_S1 (n : Nat) (_append0 : ApiRung) : St :=
  { ch := [(3, .hptr 0 0 0)], hp := [.var [.str _append0.Label, aL cApiContact _append0.Contacts, aL cApiCoil _append0.Coils, .str _append0.Jump]], base := 0, n := 71, cond := True }

def law16_RungevalContactsMatchReference_S2 (n : Nat) (_append0 : ApiRung) (a1 : List Bool) (a2 : ApiState) (v : List Int) (w : Int) : St :=
  { ch := [(1, aL cB a1), (3, .hptr 0 0 0), (5, .hptr 1 0 0), (23, aL (cI .i64) v), (24, .int .i64 (v.length : Int)), (25, .int .i64 w)], hp := [.var [.str _append0.Label, aL cApiContact _append0.Contacts, aL cApiCoil _append0.Coils, .str _append0.Jump], .var [aL cB a2.Q, aL cB a2.M, aL cB a2.E]], base := 0, n := 71, cond := True }

theorem con_law16_RungevalContactsMatchReference {n : Nat} {_append0 : ApiRung} {a1 : List Bool} {a2 : ApiState} {r : Bool} (h : law16_RungevalContactsMatchReference n _append0 a1 a2 = some r) : Con Try.prog 8 [.agg (cApiRung _append0), aL cB a1, .agg (cApiState a2)] (.bool r) [] := by
  refine con_of (T := TT0) tt_ok Try.func8 (c := _) (by unfold Try.f8; rfl) Try.ntmps8 (rs := [.tmp 6]) (by rw [Try.results8]) (by unfold Try.f8; rfl) (by simp) ?_
  simp only [argsCh]
  dsimp only [law16_RungevalContactsMatchReference] at h
  refine Wp.reg_seq (own := fun _ => false) tt_ok ?_
  iterate 3
    refine regv_pure (s1 := ?_) rfl rfl ?_ ?_ ?_
    rotate_left
    · simp []; rfl
    · first | (simp [] <;> omega) | skip
  refine regv_nil ?_
  refine Wp.seq ?_
  refine Wp.reg_seq (own := fun _ => false) tt_ok ?_
  iterate 3
    refine regv_pure (s1 := ?_) rfl rfl ?_ ?_ ?_
    rotate_left
    · simp []; rfl
    · first | (simp [] <;> omega) | skip
  obtain ⟨ak, z, h⟩ := obind h
  refine regv_call2 (s' := ?_) (p := ?_) (con_law16_tooLarge z) rfl rfl rfl rfl ?_ ?_ ?_ ?_ ?_ ?_
  rotate_left 2
  · simp []; rfl
  · first | exact .inl rfl | (refine .inl ?_; simp []; done) | (refine .inr ?_; dsimp only; repeat' first | exact All2.nil | refine All2.cons ?_ ?_) <;> first | exact AvLe.refl _ rfl | exact AvLe.nil _ | exact AvLe.znil _ | exact AvLe.list' (by simp []; done) (by simp []; done) | exact AvLe.eq (by simp []; done) rfl
  · first | (simp [] <;> omega) | skip
  · simp
  · simp []; rfl
  refine regv_nil ?_
  cases a : ak
  · rw [a, if_neg (by simp)] at h
    refine Wp.cond false (by first | (simp [a] <;> omega) | (have hq := a; simp at hq; simp [a, hq]; done)) (fun h0 => absurd h0 (by decide)) (fun _ => ?_)
    refine Wp.skip ?_
    show Wp _ _ _ _
    refine Wp.join (α := Unit) (fun x => law16_RungevalContactsMatchReference_S1 n _append0 ) (fun x => law16_RungevalContactsMatchReference_J1 n _append0  = some r) ?_ ?_
    · clear h
      rintro _ h
      simp only [law16_RungevalContactsMatchReference_S1]
      dsimp only [law16_RungevalContactsMatchReference_J1] at h
      refine Wp.drawn (own := fun _ => false) tt_ok mixed [0] (by decide +kernel) trivial ?_
      obtain ⟨am, aa, h⟩ := obind h
      refine regI_call2 (s1 := ?_) (p := ?_) (con_law16_alive aa) rfl rfl rfl rfl ?_ ?_ ?_ (fun _ => rfl) ?_ rfl ?_ ?_
      rotate_left 2
      · simp [a]; rfl
      · first | exact .inl rfl | (refine .inl ?_; simp [a]; done) | (refine .inr ?_; dsimp only; repeat' first | exact All2.nil | refine All2.cons ?_ ?_) <;> first | exact AvLe.refl _ rfl | exact AvLe.nil _ | exact AvLe.znil _ | exact AvLe.list' (by simp [a]; done) (by simp [a]; done) | exact AvLe.eq (by simp [a]; done) rfl
      · first | (simp [a] <;> omega) | (have hq := a; simp at hq; simp [a, hq]; done) | skip
      · simp
      · simp [a]; rfl
      refine regI_upto 1 (r := ?_) ?_ ?_ ?_
      rotate_left
      · simp [List.range, List.range.loop, a]; rfl
      · first | (simp [a] <;> omega) | (have hq := a; simp at hq; simp [a, hq]; done) | skip
      cases q : am
      · rw [q, if_neg (by simp)] at h
        refine regI_skip (s1 := ?_) rfl rfl ?_ ?_ ?_
        rotate_left
        · simp [a, q]; done
        · simp [a, q]; rfl
        refine regI_skip (s1 := ?_) rfl rfl ?_ ?_ ?_
        rotate_left
        · simp [a, q]; done
        · simp [a, q]; rfl
        refine regI_skip (s1 := ?_) rfl rfl ?_ ?_ ?_
        rotate_left
        · simp [a, q]; done
        · simp [a, q]; rfl
        refine regI_skip (s1 := ?_) rfl rfl ?_ ?_ ?_
        rotate_left
        · simp [a, q]; done
        · simp [a, q]; rfl
        refine regI_skip (s1 := ?_) rfl rfl ?_ ?_ ?_
        rotate_left
        · simp [a, q]; done
        · simp [a, q]; rfl
        refine regI_upto 2 (r := ?_) ?_ ?_ ?_
        rotate_left
        · simp [List.range, List.range.loop, a, q]; rfl
        · first | (simp [a, q] <;> omega) | (have hq := q; simp at hq; simp [a, q, hq]; done) | skip
        refine regI_nil ?_
        cases h
        refine Wp.ret (endQ_ret0 rfl ?_)
        repeat' first | exact All2.nil | refine All2.cons ?_ ?_ | refine AvLe.tups ?_ | refine AvLe.aggs ?_
        all_goals first
          | (exact AvLe.refl _ rfl)
          | (exact AvLe.nil _)
          | (exact AvLe.znil _)
          | (exact AvLe.ghost _ rfl)
          | (exact AvLe.zghost _ rfl)
          | (exact AvLe.sl' rfl (by simp [a, q]; done) (by simp [a, q]; done))
          | (exact AvLe.frz' rfl rfl rfl (by simp [a, q]; done) (by simp [a, q]; done) (by simp [a, q]; done))
          | (exact AvLe.list' (by simp [a, q]; done) (by simp [a, q]; done))
          | (exact AvLe.eq (by simp [a, q]; done) rfl)
      · rw [q, if_pos rfl] at h
        refine regI_upto 1 (r := ?_) ?_ ?_ ?_
        rotate_left
        · simp [List.range, List.range.loop, a, q]; rfl
        · first | (simp [a, q] <;> omega) | (have hq := q; simp at hq; simp [a, q, hq]; done) | skip
        obtain ⟨av, ab, h⟩ := obind h
        refine regI_call2 (s1 := ?_) (p := ?_) (con_rungeval_EdgeCount ab) rfl rfl rfl rfl ?_ ?_ ?_ (fun _ => rfl) ?_ rfl ?_ ?_
        rotate_left 2
        · simp [a, q]; rfl
        · first | exact .inl rfl | (refine .inl ?_; simp [a, q]; done) | (refine .inr ?_; dsimp only; repeat' first | exact All2.nil | refine All2.cons ?_ ?_) <;> first | exact AvLe.refl _ rfl | exact AvLe.nil _ | exact AvLe.znil _ | exact AvLe.list' (by simp [a, q]; done) (by simp [a, q]; done) | exact AvLe.eq (by simp [a, q]; done) rfl
        · first | (simp [a, q] <;> omega) | (have hq := q; simp at hq; simp [a, q, hq]; done) | skip
        · simp
        · simp [a, q]; rfl
        refine regI_upto 1 (r := ?_) ?_ ?_ ?_
        rotate_left
        · simp [List.range, List.range.loop, a, q]; rfl
        · first | (simp [a, q] <;> omega) | (have hq := q; simp at hq; simp [a, q, hq]; done) | skip
        obtain ⟨aw, ac, h⟩ := obind h
        refine regI_call2 (s1 := ?_) (p := ?_) (con_ref16_EdgeCount ac) rfl rfl rfl rfl ?_ ?_ ?_ (fun _ => rfl) ?_ rfl ?_ ?_
        rotate_left 2
        · simp [a, q]; rfl
        · first | exact .inl rfl | (refine .inl ?_; simp [a, q]; done) | (refine .inr ?_; dsimp only; repeat' first | exact All2.nil | refine All2.cons ?_ ?_) <;> first | exact AvLe.refl _ rfl | exact AvLe.nil _ | exact AvLe.znil _ | exact AvLe.list' (by simp [a, q]; done) (by simp [a, q]; done) | exact AvLe.eq (by simp [a, q]; done) rfl
        · first | (simp [a, q] <;> omega) | (have hq := q; simp at hq; simp [a, q, hq]; done) | skip
        · simp
        · simp [a, q]; rfl
        refine regI_upto 1 (r := ?_) ?_ ?_ ?_
        rotate_left
        · simp [List.range, List.range.loop, a, q]; rfl
        · first | (simp [a, q] <;> omega) | (have hq := q; simp at hq; simp [a, q, hq]; done) | skip
        refine regI_upto 2 (r := ?_) ?_ ?_ ?_
        rotate_left
        · simp [List.range, List.range.loop, a, q]; rfl
        · first | (simp [a, q] <;> omega) | (have hq := q; simp at hq; simp [a, q, hq]; done) | skip
        refine regI_nil ?_
        cases h
        refine Wp.ret (endQ_ret0 rfl ?_)
        repeat' first | exact All2.nil | refine All2.cons ?_ ?_ | refine AvLe.tups ?_ | refine AvLe.aggs ?_
        all_goals first
          | (exact AvLe.refl _ rfl)
          | (exact AvLe.nil _)
          | (exact AvLe.znil _)
          | (exact AvLe.ghost _ rfl)
          | (exact AvLe.zghost _ rfl)
          | (exact AvLe.sl' rfl (by simp [a, q]; done) (by simp [a, q]; done))
          | (exact AvLe.frz' rfl rfl rfl (by simp [a, q]; done) (by simp [a, q]; done) (by simp [a, q]; done))
          | (exact AvLe.list' (by simp [a, q]; done) (by simp [a, q]; done))
          | (exact AvLe.eq (by simp [a, q]; done) rfl)
    · skip
      refine Wp.reg_seq (own := fun _ => false) tt_ok ?_
      iterate 4
        refine regv_pure (s1 := ?_) rfl rfl ?_ ?_ ?_
        rotate_left
        · simp [a]; rfl
        · first | (simp [a] <;> omega) | (have hq := a; simp at hq; simp [a, hq]; done) | skip
      obtain ⟨v, y, h⟩ := obind h
      have d := congrArg (List.map (cI .i64)) (Option.some.inj y)
      have b := (congrArg List.length (Option.some.inj y)).symm
      try simp [a] at d
      try simp [a] at b
      clear y
      try simp only [d]
      iterate 2
        refine regv_pure (s1 := ?_) rfl rfl ?_ ?_ ?_
        rotate_left
        · simp [a, d, b]; rfl
        · first | (simp [a, d, b] <;> omega) | (have hq := b; simp at hq; simp [a, d, b, hq]; done) | skip
      refine regv_nil ?_
      refine Wp.block ?_
      refine Wp.loopF (α := Int) (fun x => law16_RungevalContactsMatchReference_S2 n _append0 a1 a2 v x) (fun m x => law16_RungevalContactsMatchReference_L2 n _append0 a1 a2 v m x = some r) (fun _ h => by cases h) ?_ n 0 h ?_
      rotate_left
      · simp only [law16_RungevalContactsMatchReference_S2]
        refine Reloc.mk2 [some 0, some 1] rfl rfl rfl (by decide) ?_ ?_
        · repeat' first | exact objsLe_nil | refine objsLe_cons ?_ ?_
          all_goals first
            | exact trivial
            | (refine ObjLe.var' rfl rfl ?_ rfl
               repeat' first | exact All2.nil | refine All2.cons ?_ ?_
               all_goals first | (exact AvLe.refl _ rfl) | (exact AvLe.sl _ _ _ _ rfl) | (exact AvLe.hptr _ _ _ _ rfl) | (exact AvLe.mp _ _ rfl) | (exact AvLe.nil _) | (exact AvLe.znil _) | (exact AvLe.ghost _ rfl) | (exact AvLe.zghost _ rfl) | (exact AvLe.sl' rfl (by simp [a, d, b]; done) (by first | (simp [a, d, b] <;> omega) | omega)) | (exact AvLe.frz2 rfl (by simp) rfl (by simp [a, d, b]; done) (by simp [a, d, b]; done) (by simp [a, d, b]; done)) | (exact AvLe.list' (by simp [a, d, b]; done) (by simp [a, d, b]; done)) | (exact AvLe.eq (by simp [a, d, b]; done) rfl))
            | (exact ObjLe.map' rfl rfl)
            | (exact ObjLe.ghost' rfl (by decide))
            | (exact ObjLe.arr' rfl rfl (by first | (simp [a, d, b] <;> omega)) (fun _ _ => by first | rfl | (simp [a, d, b]; done)))
            | ((simp [a, d, b]; done))
        · repeat' first | exact chLe_nil | refine chLe_cons ?_ ?_
          all_goals first
            | (exact AvLe.refl _ rfl)
            | (exact AvLe.sl _ _ _ _ rfl)
            | (exact AvLe.hptr _ _ _ _ rfl)
            | (exact AvLe.mp _ _ rfl)
            | (exact AvLe.nil _)
            | (exact AvLe.znil _)
            | (exact AvLe.ghost _ rfl)
            | (exact AvLe.zghost _ rfl)
            | (exact AvLe.sl' rfl (by simp [a, d, b]; done) (by first | (simp [a, d, b] <;> omega) | omega))
            | (exact AvLe.frz2 rfl (by simp) rfl (by simp [a, d, b]; done) (by simp [a, d, b]; done) (by simp [a, d, b]; done))
            | (exact AvLe.list' (by simp [a, d, b]; done) (by simp [a, d, b]; done))
            | (exact AvLe.eq (by simp [a, d, b]; done) rfl)
      rintro rec_n2 w h
      simp only [law16_RungevalContactsMatchReference_S2]
      dsimp only [law16_RungevalContactsMatchReference_L2] at h
      refine Wp.reg_seq (own := fun _ => false) tt_ok ?_
      iterate 1
        refine regv_pure (s1 := ?_) rfl rfl ?_ ?_ ?_
        rotate_left
        · simp [a, d, b]; rfl
        · first | (simp [a, d, b] <;> omega) | (have hq := b; simp at hq; simp [a, d, b, hq]; done) | skip
      refine regv_nil ?_
      refine Wp.seq ?_
      refine (Decidable.em (w < (v.length : Int))).symm.elim (fun j => ?_) (fun j => ?_)
      · rw [if_neg (by simpa using j)] at h
        refine Wp.cond false (by first | (simp [a, d, b, j] <;> omega) | (have hq := j; simp at hq; simp [a, d, b, j, hq]; done)) (fun h0 => absurd h0 (by decide)) (fun _ => ?_)
        refine Wp.exit ?_
        refine next_mk () h ?_
        refine Reloc.mk2 [some 0] rfl rfl rfl (by decide) ?_ ?_
        · repeat' first | exact objsLe_nil | refine objsLe_cons ?_ ?_
          all_goals first
            | exact trivial
            | (refine ObjLe.var' rfl rfl ?_ rfl
               repeat' first | exact All2.nil | refine All2.cons ?_ ?_
               all_goals first | (exact AvLe.refl _ rfl) | (exact AvLe.sl _ _ _ _ rfl) | (exact AvLe.hptr _ _ _ _ rfl) | (exact AvLe.mp _ _ rfl) | (exact AvLe.nil _) | (exact AvLe.znil _) | (exact AvLe.ghost _ rfl) | (exact AvLe.zghost _ rfl) | (exact AvLe.sl' rfl (by simp [a, d, b, j]; done) (by first | (simp [a, d, b, j] <;> omega) | omega)) | (exact AvLe.frz2 rfl (by simp) rfl (by simp [a, d, b, j]; done) (by simp [a, d, b, j]; done) (by simp [a, d, b, j]; done)) | (exact AvLe.list' (by simp [a, d, b, j]; done) (by simp [a, d, b, j]; done)) | (exact AvLe.eq (by simp [a, d, b, j]; done) rfl))
            | (exact ObjLe.map' rfl rfl)
            | (exact ObjLe.ghost' rfl (by decide))
            | (exact ObjLe.arr' rfl rfl (by first | (simp [a, d, b, j] <;> omega)) (fun _ _ => by first | rfl | (simp [a, d, b, j]; done)))
            | ((simp [a, d, b, j]; done))
        · repeat' first | exact chLe_nil | refine chLe_cons ?_ ?_
          all_goals first
            | (exact AvLe.refl _ rfl)
            | (exact AvLe.sl _ _ _ _ rfl)
            | (exact AvLe.hptr _ _ _ _ rfl)
            | (exact AvLe.mp _ _ rfl)
            | (exact AvLe.nil _)
            | (exact AvLe.znil _)
            | (exact AvLe.ghost _ rfl)
            | (exact AvLe.zghost _ rfl)
            | (exact AvLe.sl' rfl (by simp [a, d, b, j]; done) (by first | (simp [a, d, b, j] <;> omega) | omega))
            | (exact AvLe.frz2 rfl (by simp) rfl (by simp [a, d, b, j]; done) (by simp [a, d, b, j]; done) (by simp [a, d, b, j]; done))
            | (exact AvLe.list' (by simp [a, d, b, j]; done) (by simp [a, d, b, j]; done))
            | (exact AvLe.eq (by simp [a, d, b, j]; done) rfl)
      · rw [if_pos (decide_eq_true j)] at h
        refine Wp.cond true (by first | (simp [a, d, b, j] <;> omega) | (have hq := j; simp at hq; simp [a, d, b, j, hq]; done)) (fun _ => ?_) (fun h0 => absurd h0 (by decide))
        refine Wp.skip ?_
        show Wp _ _ _ _
        refine Wp.seq ?_
        refine Wp.block ?_
        refine Wp.reg_seq (own := fun _ => false) tt_ok ?_
        obtain ⟨ay, ad, h⟩ := obind h
        obtain ⟨i, g, f⟩ := atI_some ad
        try simp [a, d, b, j] at g
        try simp only [Int.toNat_natCast, Int.reduceToNat, Nat.zero_add, Nat.add_zero] at f
        have e := getElem_of f
        iterate 3
          refine regv_pure (s1 := ?_) rfl rfl ?_ ?_ ?_
          rotate_left
          · simp [a, d, b, j, i, g, f, e]; rfl
          · first | (simp [a, d, b, j, i, g, f, e] <;> omega) | (have hq := e; simp at hq; simp [a, d, b, j, i, g, f, e, hq]; done) | skip
        refine regv_nil ?_
        refine Wp.reg_seq (own := fun _ => false) tt_ok ?_
        iterate 4
          refine regv_pure (s1 := ?_) rfl rfl ?_ ?_ ?_
          rotate_left
          · simp [a, d, b, j, i, g, f, e]; rfl
          · first | (simp [a, d, b, j, i, g, f, e] <;> omega) | (have hq := e; simp at hq; simp [a, d, b, j, i, g, f, e, hq]; done) | skip
        obtain ⟨⟨az, ba, ao⟩, ae, h⟩ := obind h
        dsimp only at h
        refine regv_call2 (s' := ?_) (p := ?_) (con_rungeval_Contacts ae) rfl rfl rfl rfl ?_ ?_ ?_ ?_ ?_ ?_
        rotate_left 2
        · simp [a, d, b, j, i, g, f, e]; rfl
        · first | exact .inl rfl | (refine .inl ?_; simp [a, d, b, j, i, g, f, e]; done) | (refine .inr ?_; dsimp only; repeat' first | exact All2.nil | refine All2.cons ?_ ?_) <;> first | exact AvLe.refl _ rfl | exact AvLe.nil _ | exact AvLe.znil _ | exact AvLe.list' (by simp [a, d, b, j, i, g, f, e]; done) (by simp [a, d, b, j, i, g, f, e]; done) | exact AvLe.eq (by simp [a, d, b, j, i, g, f, e]; done) rfl
        · first | (simp [a, d, b, j, i, g, f, e] <;> omega) | (have hq := e; simp at hq; simp [a, d, b, j, i, g, f, e, hq]; done) | skip
        · simp
        · simp [a, d, b, j, i, g, f, e]; rfl
        iterate 8
          refine regv_pure (s1 := ?_) rfl rfl ?_ ?_ ?_
          rotate_left
          · simp [a, d, b, j, i, g, f, e]; rfl
          · first | (simp [a, d, b, j, i, g, f, e] <;> omega) | (have hq := e; simp at hq; simp [a, d, b, j, i, g, f, e, hq]; done) | skip
        refine regv_nil ?_
        refine Wp.reg_seq (own := fun _ => false) tt_ok ?_
        iterate 4
          refine regv_pure (s1 := ?_) rfl rfl ?_ ?_ ?_
          rotate_left
          · simp [a, d, b, j, i, g, f, e]; rfl
          · first | (simp [a, d, b, j, i, g, f, e] <;> omega) | (have hq := e; simp at hq; simp [a, d, b, j, i, g, f, e, hq]; done) | skip
        obtain ⟨⟨bb, bc, ap⟩, af, h⟩ := obind h
        dsimp only at h
        refine regv_call2 (s' := ?_) (p := ?_) (con_ref16_Contacts af) rfl rfl rfl rfl ?_ ?_ ?_ ?_ ?_ ?_
        rotate_left 2
        · simp [a, d, b, j, i, g, f, e]; rfl
        · first | exact .inl rfl | (refine .inl ?_; simp [a, d, b, j, i, g, f, e]; done) | (refine .inr ?_; dsimp only; repeat' first | exact All2.nil | refine All2.cons ?_ ?_) <;> first | exact AvLe.refl _ rfl | exact AvLe.nil _ | exact AvLe.znil _ | exact AvLe.list' (by simp [a, d, b, j, i, g, f, e]; done) (by simp [a, d, b, j, i, g, f, e]; done) | exact AvLe.eq (by simp [a, d, b, j, i, g, f, e]; done) rfl
        · first | (simp [a, d, b, j, i, g, f, e] <;> omega) | (have hq := e; simp at hq; simp [a, d, b, j, i, g, f, e, hq]; done) | skip
        · simp
        · simp [a, d, b, j, i, g, f, e]; rfl
        iterate 8
          refine regv_pure (s1 := ?_) rfl rfl ?_ ?_ ?_
          rotate_left
          · simp [a, d, b, j, i, g, f, e]; rfl
          · first | (simp [a, d, b, j, i, g, f, e] <;> omega) | (have hq := e; simp at hq; simp [a, d, b, j, i, g, f, e, hq]; done) | skip
        refine regv_nil ?_
        refine Wp.reg_seq (own := fun _ => false) tt_ok ?_
        iterate 2
          refine regv_pure (s1 := ?_) rfl rfl ?_ ?_ ?_
          rotate_left
          · simp [a, d, b, j, i, g, f, e]; rfl
          · first | (simp [a, d, b, j, i, g, f, e] <;> omega) | (have hq := e; simp at hq; simp [a, d, b, j, i, g, f, e, hq]; done) | skip
        obtain ⟨aq, ag, h⟩ := obind h
        refine regv_call2 (s' := ?_) (p := ?_) (con_slices_Equal_bool ag) rfl rfl rfl rfl ?_ ?_ ?_ ?_ ?_ ?_
        rotate_left 2
        · simp [a, d, b, j, i, g, f, e]; rfl
        · first | exact .inl rfl | (refine .inl ?_; simp [a, d, b, j, i, g, f, e]; done) | (refine .inr ?_; dsimp only; repeat' first | exact All2.nil | refine All2.cons ?_ ?_) <;> first | exact AvLe.refl _ rfl | exact AvLe.nil _ | exact AvLe.znil _ | exact AvLe.list' (by simp [a, d, b, j, i, g, f, e]; done) (by simp [a, d, b, j, i, g, f, e]; done) | exact AvLe.eq (by simp [a, d, b, j, i, g, f, e]; done) rfl
        · first | (simp [a, d, b, j, i, g, f, e] <;> omega) | (have hq := e; simp at hq; simp [a, d, b, j, i, g, f, e, hq]; done) | skip
        · simp
        · simp [a, d, b, j, i, g, f, e]; rfl
        iterate 2
          refine regv_pure (s1 := ?_) rfl rfl ?_ ?_ ?_
          rotate_left
          · simp [a, d, b, j, i, g, f, e]; rfl
          · first | (simp [a, d, b, j, i, g, f, e] <;> omega) | (have hq := e; simp at hq; simp [a, d, b, j, i, g, f, e, hq]; done) | skip
        cases k : (!aq)
        · rw [k, if_neg (by simp)] at h
          refine regv_pure (s1 := ?_) rfl ?_ ?_ ?_ ?_
          rotate_left
          · simp [a, d, b, j, i, g, f, e, k]; done
          · simp [a, d, b, j, i, g, f, e, k]; rfl
          · first | (simp [a, d, b, j, i, g, f, e, k] <;> omega) | (have hq := k; simp at hq; simp [a, d, b, j, i, g, f, e, k, hq]; done) | skip
          refine regv_pure (s1 := ?_) rfl ?_ ?_ ?_ ?_
          rotate_left
          · simp [a, d, b, j, i, g, f, e, k]; done
          · simp [a, d, b, j, i, g, f, e, k]; rfl
          · first | (simp [a, d, b, j, i, g, f, e, k] <;> omega) | (have hq := k; simp at hq; simp [a, d, b, j, i, g, f, e, k, hq]; done) | skip
          obtain ⟨au, ai, h⟩ := obind h
          refine regv_call2 (s' := ?_) (p := ?_) (con_ref03_Equal ai) rfl rfl rfl rfl ?_ ?_ ?_ ?_ ?_ ?_
          rotate_left 2
          · simp [a, d, b, j, i, g, f, e, k]; rfl
          · first | exact .inl rfl | (refine .inl ?_; simp [a, d, b, j, i, g, f, e, k]; done) | (refine .inr ?_; dsimp only; repeat' first | exact All2.nil | refine All2.cons ?_ ?_) <;> first | exact AvLe.refl _ rfl | exact AvLe.nil _ | exact AvLe.znil _ | exact AvLe.list' (by simp [a, d, b, j, i, g, f, e, k]; done) (by simp [a, d, b, j, i, g, f, e, k]; done) | exact AvLe.eq (by simp [a, d, b, j, i, g, f, e, k]; done) rfl
          · first | (simp [a, d, b, j, i, g, f, e, k] <;> omega) | (have hq := k; simp at hq; simp [a, d, b, j, i, g, f, e, k, hq]; done) | skip
          · simp
          · simp [a, d, b, j, i, g, f, e, k]; rfl
          refine regv_pure (s1 := ?_) rfl ?_ ?_ ?_ ?_
          rotate_left
          · simp [a, d, b, j, i, g, f, e, k]; done
          · simp [a, d, b, j, i, g, f, e, k]; rfl
          · first | (simp [a, d, b, j, i, g, f, e, k] <;> omega) | (have hq := k; simp at hq; simp [a, d, b, j, i, g, f, e, k, hq]; done) | skip
          iterate 2
            refine regv_pure (s1 := ?_) rfl rfl ?_ ?_ ?_
            rotate_left
            · simp [a, d, b, j, i, g, f, e, k]; rfl
            · first | (simp [a, d, b, j, i, g, f, e, k] <;> omega) | (have hq := k; simp at hq; simp [a, d, b, j, i, g, f, e, k, hq]; done) | skip
          cases o : (!au)
          · rw [o, if_neg (by simp)] at h
            refine regv_pure (s1 := ?_) rfl ?_ ?_ ?_ ?_
            rotate_left
            · simp [a, d, b, j, i, g, f, e, k, o]; done
            · simp [a, d, b, j, i, g, f, e, k, o]; rfl
            · first | (simp [a, d, b, j, i, g, f, e, k, o] <;> omega) | (have hq := o; simp at hq; simp [a, d, b, j, i, g, f, e, k, o, hq]; done) | skip
            refine regv_pure (s1 := ?_) rfl ?_ ?_ ?_ ?_
            rotate_left
            · simp [a, d, b, j, i, g, f, e, k, o]; done
            · simp [a, d, b, j, i, g, f, e, k, o]; rfl
            · first | (simp [a, d, b, j, i, g, f, e, k, o] <;> omega) | (have hq := o; simp at hq; simp [a, d, b, j, i, g, f, e, k, o, hq]; done) | skip
            refine regv_pure (s1 := ?_) rfl ?_ ?_ ?_ ?_
            rotate_left
            · simp [a, d, b, j, i, g, f, e, k, o]; done
            · simp [a, d, b, j, i, g, f, e, k, o]; rfl
            · first | (simp [a, d, b, j, i, g, f, e, k, o] <;> omega) | (have hq := o; simp at hq; simp [a, d, b, j, i, g, f, e, k, o, hq]; done) | skip
            iterate 1
              refine regv_pure (s1 := ?_) rfl rfl ?_ ?_ ?_
              rotate_left
              · simp [a, d, b, j, i, g, f, e, k, o]; rfl
              · first | (simp [a, d, b, j, i, g, f, e, k, o] <;> omega) | (have hq := o; simp at hq; simp [a, d, b, j, i, g, f, e, k, o, hq]; done) | skip
            refine regv_nil ?_
            cases u : (ao != ap)
            · rw [u, if_neg (by simp)] at h
              refine Wp.cond false (by first | (simp [a, d, b, j, i, g, f, e, k, o, u] <;> omega) | (have hq := u; simp at hq; simp [a, d, b, j, i, g, f, e, k, o, u, hq]; done)) (fun h0 => absurd h0 (by decide)) (fun _ => ?_)
              refine Wp.skip ?_
              show Wp _ _ _ _
              refine Wp.reg (own := fun _ => false) tt_ok ?_
              iterate 2
                refine regv_pure (s1 := ?_) rfl rfl ?_ ?_ ?_
                rotate_left
                · simp [a, d, b, j, i, g, f, e, k, o, u]; rfl
                · first | (simp [a, d, b, j, i, g, f, e, k, o, u] <;> omega) | (have hq := u; simp at hq; simp [a, d, b, j, i, g, f, e, k, o, u, hq]; done) | skip
              refine regv_nil ?_
              refine next_mk (IntKind.i64.wrap (w + 1)) h ?_
              refine Reloc.mk2 [some 0, some 1] rfl rfl rfl (by decide) ?_ ?_
              · repeat' first | exact objsLe_nil | refine objsLe_cons ?_ ?_
                all_goals first
                  | exact trivial
                  | (refine ObjLe.var' rfl rfl ?_ rfl
                     repeat' first | exact All2.nil | refine All2.cons ?_ ?_
                     all_goals first | (exact AvLe.refl _ rfl) | (exact AvLe.sl _ _ _ _ rfl) | (exact AvLe.hptr _ _ _ _ rfl) | (exact AvLe.mp _ _ rfl) | (exact AvLe.nil _) | (exact AvLe.znil _) | (exact AvLe.ghost _ rfl) | (exact AvLe.zghost _ rfl) | (exact AvLe.sl' rfl (by simp [a, d, b, j, i, g, f, e, k, o, u]; done) (by first | (simp [a, d, b, j, i, g, f, e, k, o, u] <;> omega) | omega)) | (exact AvLe.frz2 rfl (by simp) rfl (by simp [a, d, b, j, i, g, f, e, k, o, u]; done) (by simp [a, d, b, j, i, g, f, e, k, o, u]; done) (by simp [a, d, b, j, i, g, f, e, k, o, u]; done)) | (exact AvLe.list' (by simp [a, d, b, j, i, g, f, e, k, o, u]; done) (by simp [a, d, b, j, i, g, f, e, k, o, u]; done)) | (exact AvLe.eq (by simp [a, d, b, j, i, g, f, e, k, o, u]; done) rfl))
                  | (exact ObjLe.map' rfl rfl)
                  | (exact ObjLe.ghost' rfl (by decide))
                  | (exact ObjLe.arr' rfl rfl (by first | (simp [a, d, b, j, i, g, f, e, k, o, u] <;> omega)) (fun _ _ => by first | rfl | (simp [a, d, b, j, i, g, f, e, k, o, u]; done)))
                  | ((simp [a, d, b, j, i, g, f, e, k, o, u]; done))
              · repeat' first | exact chLe_nil | refine chLe_cons ?_ ?_
                all_goals first
                  | (exact AvLe.refl _ rfl)
                  | (exact AvLe.sl _ _ _ _ rfl)
                  | (exact AvLe.hptr _ _ _ _ rfl)
                  | (exact AvLe.mp _ _ rfl)
                  | (exact AvLe.nil _)
                  | (exact AvLe.znil _)
                  | (exact AvLe.ghost _ rfl)
                  | (exact AvLe.zghost _ rfl)
                  | (exact AvLe.sl' rfl (by simp [a, d, b, j, i, g, f, e, k, o, u]; done) (by first | (simp [a, d, b, j, i, g, f, e, k, o, u] <;> omega) | omega))
                  | (exact AvLe.frz2 rfl (by simp) rfl (by simp [a, d, b, j, i, g, f, e, k, o, u]; done) (by simp [a, d, b, j, i, g, f, e, k, o, u]; done) (by simp [a, d, b, j, i, g, f, e, k, o, u]; done))
                  | (exact AvLe.list' (by simp [a, d, b, j, i, g, f, e, k, o, u]; done) (by simp [a, d, b, j, i, g, f, e, k, o, u]; done))
                  | (exact AvLe.eq (by simp [a, d, b, j, i, g, f, e, k, o, u]; done) rfl)
            · rw [u, if_pos rfl] at h
              refine Wp.cond true (by first | (simp [a, d, b, j, i, g, f, e, k, o, u] <;> omega) | (have hq := u; simp at hq; simp [a, d, b, j, i, g, f, e, k, o, u, hq]; done)) (fun _ => ?_) (fun h0 => absurd h0 (by decide))
              refine Wp.reg_seq (own := fun _ => false) tt_ok ?_
              iterate 1
                refine regv_pure (s1 := ?_) rfl rfl ?_ ?_ ?_
                rotate_left
                · simp [a, d, b, j, i, g, f, e, k, o, u]; rfl
                · first | (simp [a, d, b, j, i, g, f, e, k, o, u] <;> omega) | (have hq := u; simp at hq; simp [a, d, b, j, i, g, f, e, k, o, u, hq]; done) | skip
              refine regv_nil ?_
              cases h
              refine Wp.ret (endQ_ret0 rfl ?_)
              repeat' first | exact All2.nil | refine All2.cons ?_ ?_ | refine AvLe.tups ?_ | refine AvLe.aggs ?_
              all_goals first
                | (exact AvLe.refl _ rfl)
                | (exact AvLe.nil _)
                | (exact AvLe.znil _)
                | (exact AvLe.ghost _ rfl)
                | (exact AvLe.zghost _ rfl)
                | (exact AvLe.sl' rfl (by simp [a, d, b, j, i, g, f, e, k, o, u]; done) (by simp [a, d, b, j, i, g, f, e, k, o, u]; done))
                | (exact AvLe.frz' rfl rfl rfl (by simp [a, d, b, j, i, g, f, e, k, o, u]; done) (by simp [a, d, b, j, i, g, f, e, k, o, u]; done) (by simp [a, d, b, j, i, g, f, e, k, o, u]; done))
                | (exact AvLe.list' (by simp [a, d, b, j, i, g, f, e, k, o, u]; done) (by simp [a, d, b, j, i, g, f, e, k, o, u]; done))
                | (exact AvLe.eq (by simp [a, d, b, j, i, g, f, e, k, o, u]; done) rfl)
          · rw [o, if_pos rfl] at h
            refine regv_skip (s1 := ?_) ?_ ?_ ?_
            rotate_left
            · simp [a, d, b, j, i, g, f, e, k, o]; done
            · simp [a, d, b, j, i, g, f, e, k, o]; rfl
            refine regv_skip (s1 := ?_) ?_ ?_ ?_
            rotate_left
            · simp [a, d, b, j, i, g, f, e, k, o]; done
            · simp [a, d, b, j, i, g, f, e, k, o]; rfl
            refine regv_skip (s1 := ?_) ?_ ?_ ?_
            rotate_left
            · simp [a, d, b, j, i, g, f, e, k, o]; done
            · simp [a, d, b, j, i, g, f, e, k, o]; rfl
            iterate 1
              refine regv_pure (s1 := ?_) rfl rfl ?_ ?_ ?_
              rotate_left
              · simp [a, d, b, j, i, g, f, e, k, o]; rfl
              · first | (simp [a, d, b, j, i, g, f, e, k, o] <;> omega) | (have hq := o; simp at hq; simp [a, d, b, j, i, g, f, e, k, o, hq]; done) | skip
            refine regv_nil ?_
            refine Wp.cond true (by first | (simp [a, d, b, j, i, g, f, e, k, o] <;> omega) | (have hq := o; simp at hq; simp [a, d, b, j, i, g, f, e, k, o, hq]; done)) (fun _ => ?_) (fun h0 => absurd h0 (by decide))
            refine Wp.reg_seq (own := fun _ => false) tt_ok ?_
            iterate 1
              refine regv_pure (s1 := ?_) rfl rfl ?_ ?_ ?_
              rotate_left
              · simp [a, d, b, j, i, g, f, e, k, o]; rfl
              · first | (simp [a, d, b, j, i, g, f, e, k, o] <;> omega) | (have hq := o; simp at hq; simp [a, d, b, j, i, g, f, e, k, o, hq]; done) | skip
            refine regv_nil ?_
            cases h
            refine Wp.ret (endQ_ret0 rfl ?_)
            repeat' first | exact All2.nil | refine All2.cons ?_ ?_ | refine AvLe.tups ?_ | refine AvLe.aggs ?_
            all_goals first
              | (exact AvLe.refl _ rfl)
              | (exact AvLe.nil _)
              | (exact AvLe.znil _)
              | (exact AvLe.ghost _ rfl)
              | (exact AvLe.zghost _ rfl)
              | (exact AvLe.sl' rfl (by simp [a, d, b, j, i, g, f, e, k, o]; done) (by simp [a, d, b, j, i, g, f, e, k, o]; done))
              | (exact AvLe.frz' rfl rfl rfl (by simp [a, d, b, j, i, g, f, e, k, o]; done) (by simp [a, d, b, j, i, g, f, e, k, o]; done) (by simp [a, d, b, j, i, g, f, e, k, o]; done))
              | (exact AvLe.list' (by simp [a, d, b, j, i, g, f, e, k, o]; done) (by simp [a, d, b, j, i, g, f, e, k, o]; done))
              | (exact AvLe.eq (by simp [a, d, b, j, i, g, f, e, k, o]; done) rfl)
        · rw [k, if_pos rfl] at h
          refine regv_skip (s1 := ?_) ?_ ?_ ?_
          rotate_left
          · simp [a, d, b, j, i, g, f, e, k]; done
          · simp [a, d, b, j, i, g, f, e, k]; rfl
          refine regv_skip (s1 := ?_) ?_ ?_ ?_
          rotate_left
          · simp [a, d, b, j, i, g, f, e, k]; done
          · simp [a, d, b, j, i, g, f, e, k]; rfl
          refine regv_skip (s1 := ?_) ?_ ?_ ?_
          rotate_left
          · simp [a, d, b, j, i, g, f, e, k]; done
          · simp [a, d, b, j, i, g, f, e, k]; rfl
          refine regv_skip (s1 := ?_) ?_ ?_ ?_
          rotate_left
          · simp [a, d, b, j, i, g, f, e, k]; done
          · simp [a, d, b, j, i, g, f, e, k]; rfl
          iterate 2
            refine regv_pure (s1 := ?_) rfl rfl ?_ ?_ ?_
            rotate_left
            · simp [a, d, b, j, i, g, f, e, k]; rfl
            · first | (simp [a, d, b, j, i, g, f, e, k] <;> omega) | (have hq := k; simp at hq; simp [a, d, b, j, i, g, f, e, k, hq]; done) | skip
          refine regv_skip (s1 := ?_) ?_ ?_ ?_
          rotate_left
          · simp [a, d, b, j, i, g, f, e, k]; done
          · simp [a, d, b, j, i, g, f, e, k]; rfl
          refine regv_skip (s1 := ?_) ?_ ?_ ?_
          rotate_left
          · simp [a, d, b, j, i, g, f, e, k]; done
          · simp [a, d, b, j, i, g, f, e, k]; rfl
          refine regv_skip (s1 := ?_) ?_ ?_ ?_
          rotate_left
          · simp [a, d, b, j, i, g, f, e, k]; done
          · simp [a, d, b, j, i, g, f, e, k]; rfl
          iterate 1
            refine regv_pure (s1 := ?_) rfl rfl ?_ ?_ ?_
            rotate_left
            · simp [a, d, b, j, i, g, f, e, k]; rfl
            · first | (simp [a, d, b, j, i, g, f, e, k] <;> omega) | (have hq := k; simp at hq; simp [a, d, b, j, i, g, f, e, k, hq]; done) | skip
          refine regv_nil ?_
          refine Wp.cond true (by first | (simp [a, d, b, j, i, g, f, e, k] <;> omega) | (have hq := k; simp at hq; simp [a, d, b, j, i, g, f, e, k, hq]; done)) (fun _ => ?_) (fun h0 => absurd h0 (by decide))
          refine Wp.reg_seq (own := fun _ => false) tt_ok ?_
          iterate 1
            refine regv_pure (s1 := ?_) rfl rfl ?_ ?_ ?_
            rotate_left
            · simp [a, d, b, j, i, g, f, e, k]; rfl
            · first | (simp [a, d, b, j, i, g, f, e, k] <;> omega) | (have hq := k; simp at hq; simp [a, d, b, j, i, g, f, e, k, hq]; done) | skip
          refine regv_nil ?_
          cases h
          refine Wp.ret (endQ_ret0 rfl ?_)
          repeat' first | exact All2.nil | refine All2.cons ?_ ?_ | refine AvLe.tups ?_ | refine AvLe.aggs ?_
          all_goals first
            | (exact AvLe.refl _ rfl)
            | (exact AvLe.nil _)
            | (exact AvLe.znil _)
            | (exact AvLe.ghost _ rfl)
            | (exact AvLe.zghost _ rfl)
            | (exact AvLe.sl' rfl (by simp [a, d, b, j, i, g, f, e, k]; done) (by simp [a, d, b, j, i, g, f, e, k]; done))
            | (exact AvLe.frz' rfl rfl rfl (by simp [a, d, b, j, i, g, f, e, k]; done) (by simp [a, d, b, j, i, g, f, e, k]; done) (by simp [a, d, b, j, i, g, f, e, k]; done))
            | (exact AvLe.list' (by simp [a, d, b, j, i, g, f, e, k]; done) (by simp [a, d, b, j, i, g, f, e, k]; done))
            | (exact AvLe.eq (by simp [a, d, b, j, i, g, f, e, k]; done) rfl)
  · rw [a, if_pos rfl] at h
    refine Wp.cond true (by first | (simp [a] <;> omega) | (have hq := a; simp at hq; simp [a, hq]; done)) (fun _ => ?_) (fun h0 => absurd h0 (by decide))
    refine Wp.reg_seq (own := fun _ => false) tt_ok ?_
    obtain ⟨bd, aj, h⟩ := obind h
    refine regv_call2 (s' := ?_) (p := ?_) (con_law16_alive aj) rfl rfl rfl rfl ?_ ?_ ?_ ?_ ?_ ?_
    rotate_left 2
    · simp [a]; rfl
    · first | exact .inl rfl | (refine .inl ?_; simp [a]; done) | (refine .inr ?_; dsimp only; repeat' first | exact All2.nil | refine All2.cons ?_ ?_) <;> first | exact AvLe.refl _ rfl | exact AvLe.nil _ | exact AvLe.znil _ | exact AvLe.list' (by simp [a]; done) (by simp [a]; done) | exact AvLe.eq (by simp [a]; done) rfl
    · first | (simp [a] <;> omega) | (have hq := a; simp at hq; simp [a, hq]; done) | skip
    · simp
    · simp [a]; rfl
    iterate 1
      refine regv_pure (s1 := ?_) rfl rfl ?_ ?_ ?_
      rotate_left
      · simp [a]; rfl
      · first | (simp [a] <;> omega) | (have hq := a; simp at hq; simp [a, hq]; done) | skip
    refine regv_nil ?_
    cases h
    refine Wp.ret (endQ_ret0 rfl ?_)
    repeat' first | exact All2.nil | refine All2.cons ?_ ?_ | refine AvLe.tups ?_ | refine AvLe.aggs ?_
    all_goals first
      | (exact AvLe.refl _ rfl)
      | (exact AvLe.nil _)
      | (exact AvLe.znil _)
      | (exact AvLe.ghost _ rfl)
      | (exact AvLe.zghost _ rfl)
      | (exact AvLe.sl' rfl (by simp [a]; done) (by simp [a]; done))
      | (exact AvLe.frz' rfl rfl rfl (by simp [a]; done) (by simp [a]; done) (by simp [a]; done))
      | (exact AvLe.list' (by simp [a]; done) (by simp [a]; done))
      | (exact AvLe.eq (by simp [a]; done) rfl)

end Go.Proofs.Ytgbgmijighbfbaa

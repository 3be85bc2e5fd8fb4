/- Contracts: models of functions are right. No law is proved here. -/
import Derived.Test.YtgbgmijighbfbaaGC0
namespace Go.Proofs.Ytgbgmijighbfbaa
open Go.Av Go.G
attribute [local simp] runf guardA opf St.ev Go.Av.look St.setd constAV constAV0 opBin opLen intBin St.need lookT TT0 tab resA resOne resAll blt_dec ble_dec beq_dec isPure
attribute [local simp] opMakeSlice opCopy opIndexAddr opLoad opStore St.mem St.rows opUn calleeA toArgs toArg toArg0 toArgs0 shift shift0 shift1 splice cellsOf isFree ofCells TS.isAgg isCell strBin opConvert
attribute [local simp] opBuildSlice fillA opAppend eqC eqA cksB ckB St.newBox runI valKind withinB readsHp refsD refs noSl opFieldAddr opBuild placeOf Op.operands Call.operands opIndex opExtract opSlice opField partA
attribute [local simp] loA hiA lenA opMakeMap opLookup opMapUpdate keyOk findA_int findA_str putA_strB putA_strI putA_intB putA_intI mAV_length mAV_nil cA1 cA2 cA3 cA4
attribute [local simp] aL cI cB cS cL rw_map fz_rw fz_const dropRow_rw fz_append fz_set fz_copy fz_rows rowLen_rw rowsLen_nil rowsLen_cons rowsLen_append rowsLen_map rowsLen_take rowsLen_drop rowsLen_replicate take_map_len take_map_le drop_map_len take_drop_len chunks isScalar isScalar0
attribute [local congr] bind_congr1 map_congr1 cond_congr1
attribute [local simp] cApiAddr cApiContact cApiCoil cApiRung cApiState findA_ApiAddr putA_ApiAddr putA_ApiAddrB putA_ApiAddrI
set_option maxHeartbeats 4000000
set_option maxRecDepth 20000
set_option linter.unusedSimpArgs false
set_option linter.unusedVariables false

def rungeval_Conducts_S1 (n : Nat) (r_0 : ApiRung) (on1 : List Bool) (ay : Nat) (bc : List (Str × Bool)) (aw : List Str) : St :=
  { ch := [(1, aL cB on1), (2, .hptr 0 0 0), (6, .mp 1), (7, .sl 2 ay (aw.length - ay))], hp := [.var [.str r_0.Label, aL cApiContact r_0.Contacts, aL cApiCoil r_0.Coils, .str r_0.Jump], .map (mAV AV.str cB bc), .arr 1 aw.length (rw (aw.map cS))], base := 0, n := 64, cond := True }

def rungeval_Conducts_S2 (n : Nat) (r_0 : ApiRung) (on1 : List Bool) (az : Str) (ap : List (Str × Bool)) (aq : List Str) (au : Nat) (av : Int) : St :=
  { ch := [(1, aL cB on1), (2, .hptr 0 0 0), (6, .mp 1), (7, .sl 2 au (aq.length - au)), (8, .str az), (29, aL cApiContact r_0.Contacts), (30, .int .i64 (r_0.Contacts.length : Int)), (31, .int .i64 av)], hp := [.var [.str r_0.Label, aL cApiContact r_0.Contacts, aL cApiCoil r_0.Coils, .str r_0.Jump], .map (mAV AV.str cB ap), .arr 1 aq.length (rw (aq.map cS))], base := 0, n := 64, cond := True }

theorem con_rungeval_Conducts {n : Nat} {r_0 : ApiRung} {on1 : List Bool} {r : Bool × Int} (h : rungeval_Conducts n r_0 on1 = some r) : Con Try.prog 12 [.agg (cApiRung r_0), aL cB on1] (.tup [.bool r.1, .int .i64 r.2]) [] := by
  refine con_of (T := TT0) tt_ok Try.func12 (c := _) (by unfold Try.f12; rfl) Try.ntmps12 (rs := [.tmp 4, .tmp 5]) (by rw [Try.results12]) (by unfold Try.f12; rfl) (by simp) ?_
  simp only [argsCh]
  dsimp only [rungeval_Conducts] at h
  refine Wp.reg_seq (own := fun _ => false) tt_ok ?_
  iterate 3
    refine regv_pure (s1 := ?_) rfl rfl ?_ ?_ ?_
    rotate_left
    · simp []; rfl
    · first | (simp [] <;> omega) | skip
  refine regv_nil ?_
  refine Wp.seq ?_
  refine Wp.reg_seq (own := fun _ => false) tt_ok ?_
  iterate 6
    refine regv_pure (s1 := ?_) rfl rfl ?_ ?_ ?_
    rotate_left
    · simp []; rfl
    · first | (simp [] <;> omega) | skip
  refine regv_nil ?_
  cases e : ((on1.length : Int) != (r_0.Contacts.length : Int))
  · rw [e, if_neg (by simp)] at h
    refine Wp.cond false (by first | (simp [e] <;> omega) | (have hq := e; simp at hq; simp [e, hq]; done)) (fun h0 => absurd h0 (by decide)) (fun _ => ?_)
    refine Wp.skip ?_
    show Wp _ _ _ _
    refine Wp.reg_seq (own := fun _ => false) tt_ok ?_
    iterate 4
      refine regv_pure (s1 := ?_) rfl rfl ?_ ?_ ?_
      rotate_left
      · simp [e]; rfl
      · first | (simp [e] <;> omega) | (have hq := e; simp at hq; simp [e, hq]; done) | skip
    refine regv_nil ?_
    refine Wp.reg_seq (own := fun d => Nat.beq d 19) tt_ok ?_
    iterate 1
      refine regv_pure (s1 := ?_) rfl rfl ?_ ?_ ?_
      rotate_left
      · simp [e]; rfl
      · first | (simp [e] <;> omega) | (have hq := e; simp at hq; simp [e, hq]; done) | skip
    obtain ⟨bi, ba, h⟩ := obind h
    have b := congrArg (List.map cS) (Option.some.inj ba)
    have a := (congrArg List.length (Option.some.inj ba)).symm
    try simp [e] at b
    try simp [e] at a
    clear ba
    try simp only [b]
    iterate 1
      refine regv_pure (s1 := ?_) rfl rfl ?_ ?_ ?_
      rotate_left
      · simp [e, b, a]; rfl
      · first | (simp [e, b, a] <;> omega) | (have hq := a; simp at hq; simp [e, b, a, hq]; done) | skip
    refine regv_nil ?_
    refine Wp.seq ?_
    refine Wp.block ?_
    refine Wp.loopF (α := Nat × (List (Str × Bool)) × (List Str)) (fun x => rungeval_Conducts_S1 n r_0 on1 x.1 x.2.1 x.2.2) (fun m x => rungeval_Conducts_L1 n r_0 on1 m x.1 x.2.1 x.2.2 = some r) (fun _ h => by cases h) ?_ n (0, (mPut ([]) (⟨#[76]⟩ : Str) true), bi) h ?_
    rotate_left
    · simp only [rungeval_Conducts_S1]
      refine Reloc.mk2 [some 0, some 1, some 2] rfl rfl rfl (by decide) ?_ ?_
      · repeat' first | exact objsLe_nil | refine objsLe_cons ?_ ?_
        all_goals first
          | exact trivial
          | (refine ObjLe.var' rfl rfl ?_ rfl
             repeat' first | exact All2.nil | refine All2.cons ?_ ?_
             all_goals first | (exact AvLe.refl _ rfl) | (exact AvLe.sl _ _ _ _ rfl) | (exact AvLe.hptr _ _ _ _ rfl) | (exact AvLe.mp _ _ rfl) | (exact AvLe.nil _) | (exact AvLe.znil _) | (exact AvLe.ghost _ rfl) | (exact AvLe.zghost _ rfl) | (exact AvLe.sl' rfl (by simp [e, b, a]; done) (by first | (simp [e, b, a] <;> omega) | omega)) | (exact AvLe.frz2 rfl (by simp) rfl (by simp [e, b, a]; done) (by simp [e, b, a]; done) (by simp [e, b, a]; done)) | (exact AvLe.list' (by simp [e, b, a]; done) (by simp [e, b, a]; done)) | (exact AvLe.eq (by simp [e, b, a]; done) rfl))
          | (exact ObjLe.map' rfl rfl)
          | (exact ObjLe.map2 rfl rfl (by first | (simp [e, b, a]; done) | (simp [e, b, a]; rfl)))
          | (exact ObjLe.slot' rfl)
          | (exact ObjLe.ghost' rfl (by decide))
          | (exact ObjLe.arr' rfl rfl (by first | (simp [e, b, a] <;> omega)) (fun _ _ => by first | rfl | (simp [e, b, a]; done)))
          | ((simp [e, b, a]; done))
      · repeat' first | exact chLe_nil | refine chLe_cons ?_ ?_ | exact AvLe.refl _ rfl | refine AvLe.aggs ?_ | exact All2.nil | refine All2.cons ?_ ?_
        all_goals first
          | (exact AvLe.refl _ rfl)
          | (exact AvLe.sl _ _ _ _ rfl)
          | (exact AvLe.hptr _ _ _ _ rfl)
          | (exact AvLe.mp _ _ rfl)
          | (exact AvLe.nil _)
          | (exact AvLe.znil _)
          | (exact AvLe.ghost _ rfl)
          | (exact AvLe.zghost _ rfl)
          | (exact AvLe.sl' rfl (by simp [e, b, a]; done) (by first | (simp [e, b, a] <;> omega) | omega))
          | (exact AvLe.frz2 rfl (by simp) rfl (by simp [e, b, a]; done) (by simp [e, b, a]; done) (by simp [e, b, a]; done))
          | (exact AvLe.list' (by simp [e, b, a]; done) (by simp [e, b, a]; done))
          | (exact AvLe.eq (by simp [e, b, a]; done) rfl)
    rintro rec_n1 ⟨ay, bc, aw⟩ h
    simp only [rungeval_Conducts_S1]
    dsimp only [rungeval_Conducts_L1] at h
    refine Wp.seq ?_
    refine Wp.reg_seq (own := fun _ => false) tt_ok ?_
    iterate 3
      refine regv_pure (s1 := ?_) rfl rfl ?_ ?_ ?_
      rotate_left
      · simp [e, b, a]; rfl
      · first | (simp [e, b, a] <;> omega) | (have hq := a; simp at hq; simp [e, b, a, hq]; done) | skip
    refine regv_nil ?_
    refine (Decidable.em ((((aw.length - ay) : Nat) : Int) > 0)).symm.elim (fun q => ?_) (fun q => ?_)
    · rw [if_neg (by simpa using q)] at h
      refine Wp.cond false (by first | (simp [e, b, a, q] <;> omega) | (have hq := q; simp at hq; simp [e, b, a, q, hq]; done)) (fun h0 => absurd h0 (by decide)) (fun _ => ?_)
      refine Wp.exit ?_
      show Wp _ _ _ _
      refine Wp.reg_seq (own := fun _ => false) tt_ok ?_
      iterate 4
        refine regv_pure (s1 := ?_) rfl rfl ?_ ?_ ?_
        rotate_left
        · simp [e, b, a, q]; rfl
        · first | (simp [e, b, a, q] <;> omega) | (have hq := q; simp at hq; simp [e, b, a, q, hq]; done) | skip
      refine regv_nil ?_
      cases h
      refine Wp.ret (endQ_ret0 rfl ?_)
      repeat' first | exact All2.nil | refine All2.cons ?_ ?_ | refine AvLe.tups ?_ | refine AvLe.aggs ?_
      all_goals first
        | (exact AvLe.refl _ rfl)
        | (exact AvLe.nil _)
        | (exact AvLe.znil _)
        | (exact AvLe.ghost _ rfl)
        | (exact AvLe.zghost _ rfl)
        | (exact AvLe.sl' rfl (by simp [e, b, a, q]; done) (by simp [e, b, a, q]; done))
        | (exact AvLe.frz' rfl rfl rfl (by simp [e, b, a, q]; done) (by simp [e, b, a, q]; done) (by simp [e, b, a, q]; done))
        | (exact AvLe.list' (by simp [e, b, a, q]; done) (by simp [e, b, a, q]; done))
        | (exact AvLe.eq (by simp [e, b, a, q]; done) rfl)
    · rw [if_pos (decide_eq_true q)] at h
      refine Wp.cond true (by first | (simp [e, b, a, q] <;> omega) | (have hq := q; simp at hq; simp [e, b, a, q, hq]; done)) (fun _ => ?_) (fun h0 => absurd h0 (by decide))
      refine Wp.skip ?_
      show Wp _ _ _ _
      refine Wp.block ?_
      refine Wp.reg_seq (own := fun _ => false) tt_ok ?_
      iterate 1
        refine regv_pure (s1 := ?_) rfl rfl ?_ ?_ ?_
        rotate_left
        · simp [e, b, a, q]; rfl
        · first | (simp [e, b, a, q] <;> omega) | (have hq := q; simp at hq; simp [e, b, a, q, hq]; done) | skip
      obtain ⟨az, be, h⟩ := obind h
      obtain ⟨j, i, f⟩ := atI_some be
      try simp [e, b, a, q] at i
      try simp only [Int.toNat_natCast, Int.reduceToNat, Nat.zero_add, Nat.add_zero] at f
      try simp only [List.getElem?_drop, Int.toNat_natCast, Int.reduceToNat, Nat.add_zero] at f
      have g := getElem_of f
      iterate 3
        refine regv_pure (s1 := ?_) rfl rfl ?_ ?_ ?_
        rotate_left
        · simp [e, b, a, q, j, i, f, g]; rfl
        · first | (simp [e, b, a, q, j, i, f, g] <;> omega) | (have hq := g; simp at hq; simp [e, b, a, q, j, i, f, g, hq]; done) | skip
      refine regv_nil ?_
      refine Wp.reg_seq (own := fun _ => false) tt_ok ?_
      iterate 1
        refine regv_pure (s1 := ?_) rfl rfl ?_ ?_ ?_
        rotate_left
        · simp [e, b, a, q, j, i, f, g]; rfl
        · first | (simp [e, b, a, q, j, i, f, g] <;> omega) | (have hq := g; simp at hq; simp [e, b, a, q, j, i, f, g, hq]; done) | skip
      obtain ⟨⟨o, p, k⟩, h⟩ := oguard h
      iterate 2
        refine regv_pure (s1 := ?_) rfl rfl ?_ ?_ ?_
        rotate_left
        · simp [e, b, a, q, j, i, f, g, o, p, k]; rfl
        · first | (simp [e, b, a, q, j, i, f, g, o, p, k] <;> omega) | (have hq := k; simp at hq; simp [e, b, a, q, j, i, f, g, o, p, k, hq]; done) | skip
      refine regv_nil ?_
      refine Wp.reg_seq (own := fun _ => false) tt_ok ?_
      iterate 4
        refine regv_pure (s1 := ?_) rfl rfl ?_ ?_ ?_
        rotate_left
        · simp [e, b, a, q, j, i, f, g, o, p, k]; rfl
        · first | (simp [e, b, a, q, j, i, f, g, o, p, k] <;> omega) | (have hq := k; simp at hq; simp [e, b, a, q, j, i, f, g, o, p, k, hq]; done) | skip
      refine regv_nil ?_
      refine Wp.block ?_
      refine Wp.loopF (α := (List (Str × Bool)) × (List Str) × Nat × Int) (fun x => rungeval_Conducts_S2 n r_0 on1 az x.1 x.2.1 x.2.2.1 x.2.2.2) (fun m x => rungeval_Conducts_L2 r_0 on1 (rungeval_Conducts_L1 n r_0 on1 rec_n1) az m x.1 x.2.1 x.2.2.1 x.2.2.2 = some r) (fun _ h => by cases h) ?_ n (bc, aw, (ay + 1), 0) h ?_
      rotate_left
      · simp only [rungeval_Conducts_S2]
        refine Reloc.mk2 [some 0, some 1, some 2] rfl rfl rfl (by decide) ?_ ?_
        · repeat' first | exact objsLe_nil | refine objsLe_cons ?_ ?_
          all_goals first
            | exact trivial
            | (refine ObjLe.var' rfl rfl ?_ rfl
               repeat' first | exact All2.nil | refine All2.cons ?_ ?_
               all_goals first | (exact AvLe.refl _ rfl) | (exact AvLe.sl _ _ _ _ rfl) | (exact AvLe.hptr _ _ _ _ rfl) | (exact AvLe.mp _ _ rfl) | (exact AvLe.nil _) | (exact AvLe.znil _) | (exact AvLe.ghost _ rfl) | (exact AvLe.zghost _ rfl) | (exact AvLe.sl' rfl (by simp [e, b, a, q, j, i, f, g, o, p, k]; done) (by first | (simp [e, b, a, q, j, i, f, g, o, p, k] <;> omega) | omega)) | (exact AvLe.frz2 rfl (by simp) rfl (by simp [e, b, a, q, j, i, f, g, o, p, k]; done) (by simp [e, b, a, q, j, i, f, g, o, p, k]; done) (by simp [e, b, a, q, j, i, f, g, o, p, k]; done)) | (exact AvLe.list' (by simp [e, b, a, q, j, i, f, g, o, p, k]; done) (by simp [e, b, a, q, j, i, f, g, o, p, k]; done)) | (exact AvLe.eq (by simp [e, b, a, q, j, i, f, g, o, p, k]; done) rfl))
            | (exact ObjLe.map' rfl rfl)
            | (exact ObjLe.map2 rfl rfl (by first | (simp [e, b, a, q, j, i, f, g, o, p, k]; done) | (simp [e, b, a, q, j, i, f, g, o, p, k]; rfl)))
            | (exact ObjLe.slot' rfl)
            | (exact ObjLe.ghost' rfl (by decide))
            | (exact ObjLe.arr' rfl rfl (by first | (simp [e, b, a, q, j, i, f, g, o, p, k] <;> omega)) (fun _ _ => by first | rfl | (simp [e, b, a, q, j, i, f, g, o, p, k]; done)))
            | ((simp [e, b, a, q, j, i, f, g, o, p, k]; done))
        · repeat' first | exact chLe_nil | refine chLe_cons ?_ ?_ | exact AvLe.refl _ rfl | refine AvLe.aggs ?_ | exact All2.nil | refine All2.cons ?_ ?_
          all_goals first
            | (exact AvLe.refl _ rfl)
            | (exact AvLe.sl _ _ _ _ rfl)
            | (exact AvLe.hptr _ _ _ _ rfl)
            | (exact AvLe.mp _ _ rfl)
            | (exact AvLe.nil _)
            | (exact AvLe.znil _)
            | (exact AvLe.ghost _ rfl)
            | (exact AvLe.zghost _ rfl)
            | (exact AvLe.sl' rfl (by simp [e, b, a, q, j, i, f, g, o, p, k]; done) (by first | (simp [e, b, a, q, j, i, f, g, o, p, k] <;> omega) | omega))
            | (exact AvLe.frz2 rfl (by simp) rfl (by simp [e, b, a, q, j, i, f, g, o, p, k]; done) (by simp [e, b, a, q, j, i, f, g, o, p, k]; done) (by simp [e, b, a, q, j, i, f, g, o, p, k]; done))
            | (exact AvLe.list' (by simp [e, b, a, q, j, i, f, g, o, p, k]; done) (by simp [e, b, a, q, j, i, f, g, o, p, k]; done))
            | (exact AvLe.eq (by simp [e, b, a, q, j, i, f, g, o, p, k]; done) rfl)
      rintro rec_n2 ⟨ap, aq, au, av⟩ h
      simp only [rungeval_Conducts_S2]
      dsimp only [rungeval_Conducts_L2] at h
      refine Wp.reg_seq (own := fun _ => false) tt_ok ?_
      iterate 1
        refine regv_pure (s1 := ?_) rfl rfl ?_ ?_ ?_
        rotate_left
        · simp [e, b, a, q, j, i, f, g, o, p, k]; rfl
        · first | (simp [e, b, a, q, j, i, f, g, o, p, k] <;> omega) | (have hq := k; simp at hq; simp [e, b, a, q, j, i, f, g, o, p, k, hq]; done) | skip
      refine regv_nil ?_
      refine Wp.seq ?_
      refine (Decidable.em (av < (r_0.Contacts.length : Int))).symm.elim (fun y => ?_) (fun y => ?_)
      · rw [if_neg (by simpa using y)] at h
        refine Wp.cond false (by first | (simp [e, b, a, q, j, i, f, g, o, p, k, y] <;> omega) | (have hq := y; simp at hq; simp [e, b, a, q, j, i, f, g, o, p, k, y, hq]; done)) (fun h0 => absurd h0 (by decide)) (fun _ => ?_)
        refine Wp.exit ?_
        refine next_mk (au, ap, aq) h ?_
        refine Reloc.mk2 [some 0, some 1, some 2] rfl rfl rfl (by decide) ?_ ?_
        · repeat' first | exact objsLe_nil | refine objsLe_cons ?_ ?_
          all_goals first
            | exact trivial
            | (refine ObjLe.var' rfl rfl ?_ rfl
               repeat' first | exact All2.nil | refine All2.cons ?_ ?_
               all_goals first | (exact AvLe.refl _ rfl) | (exact AvLe.sl _ _ _ _ rfl) | (exact AvLe.hptr _ _ _ _ rfl) | (exact AvLe.mp _ _ rfl) | (exact AvLe.nil _) | (exact AvLe.znil _) | (exact AvLe.ghost _ rfl) | (exact AvLe.zghost _ rfl) | (exact AvLe.sl' rfl (by simp [e, b, a, q, j, i, f, g, o, p, k, y]; done) (by first | (simp [e, b, a, q, j, i, f, g, o, p, k, y] <;> omega) | omega)) | (exact AvLe.frz2 rfl (by simp) rfl (by simp [e, b, a, q, j, i, f, g, o, p, k, y]; done) (by simp [e, b, a, q, j, i, f, g, o, p, k, y]; done) (by simp [e, b, a, q, j, i, f, g, o, p, k, y]; done)) | (exact AvLe.list' (by simp [e, b, a, q, j, i, f, g, o, p, k, y]; done) (by simp [e, b, a, q, j, i, f, g, o, p, k, y]; done)) | (exact AvLe.eq (by simp [e, b, a, q, j, i, f, g, o, p, k, y]; done) rfl))
            | (exact ObjLe.map' rfl rfl)
            | (exact ObjLe.map2 rfl rfl (by first | (simp [e, b, a, q, j, i, f, g, o, p, k, y]; done) | (simp [e, b, a, q, j, i, f, g, o, p, k, y]; rfl)))
            | (exact ObjLe.slot' rfl)
            | (exact ObjLe.ghost' rfl (by decide))
            | (exact ObjLe.arr' rfl rfl (by first | (simp [e, b, a, q, j, i, f, g, o, p, k, y] <;> omega)) (fun _ _ => by first | rfl | (simp [e, b, a, q, j, i, f, g, o, p, k, y]; done)))
            | ((simp [e, b, a, q, j, i, f, g, o, p, k, y]; done))
        · repeat' first | exact chLe_nil | refine chLe_cons ?_ ?_ | exact AvLe.refl _ rfl | refine AvLe.aggs ?_ | exact All2.nil | refine All2.cons ?_ ?_
          all_goals first
            | (exact AvLe.refl _ rfl)
            | (exact AvLe.sl _ _ _ _ rfl)
            | (exact AvLe.hptr _ _ _ _ rfl)
            | (exact AvLe.mp _ _ rfl)
            | (exact AvLe.nil _)
            | (exact AvLe.znil _)
            | (exact AvLe.ghost _ rfl)
            | (exact AvLe.zghost _ rfl)
            | (exact AvLe.sl' rfl (by simp [e, b, a, q, j, i, f, g, o, p, k, y]; done) (by first | (simp [e, b, a, q, j, i, f, g, o, p, k, y] <;> omega) | omega))
            | (exact AvLe.frz2 rfl (by simp) rfl (by simp [e, b, a, q, j, i, f, g, o, p, k, y]; done) (by simp [e, b, a, q, j, i, f, g, o, p, k, y]; done) (by simp [e, b, a, q, j, i, f, g, o, p, k, y]; done))
            | (exact AvLe.list' (by simp [e, b, a, q, j, i, f, g, o, p, k, y]; done) (by simp [e, b, a, q, j, i, f, g, o, p, k, y]; done))
            | (exact AvLe.eq (by simp [e, b, a, q, j, i, f, g, o, p, k, y]; done) rfl)
      · rw [if_pos (decide_eq_true y)] at h
        refine Wp.cond true (by first | (simp [e, b, a, q, j, i, f, g, o, p, k, y] <;> omega) | (have hq := y; simp at hq; simp [e, b, a, q, j, i, f, g, o, p, k, y, hq]; done)) (fun _ => ?_) (fun h0 => absurd h0 (by decide))
        refine Wp.skip ?_
        show Wp _ _ _ _
        refine Wp.seq ?_
        refine Wp.block ?_
        refine Wp.reg_seq (own := fun _ => false) tt_ok ?_
        iterate 1
          refine regv_pure (s1 := ?_) rfl rfl ?_ ?_ ?_
          rotate_left
          · simp [e, b, a, q, j, i, f, g, o, p, k, y]; rfl
          · first | (simp [e, b, a, q, j, i, f, g, o, p, k, y] <;> omega) | (have hq := y; simp at hq; simp [e, b, a, q, j, i, f, g, o, p, k, y, hq]; done) | skip
        obtain ⟨bd, bf, h⟩ := obind h
        obtain ⟨z, w, u⟩ := atI_some bf
        try simp [e, b, a, q, j, i, f, g, o, p, k, y] at w
        try simp only [Int.toNat_natCast, Int.reduceToNat, Nat.zero_add, Nat.add_zero] at u
        have v := getElem_of u
        iterate 5
          refine regv_pure (s1 := ?_) rfl rfl ?_ ?_ ?_
          rotate_left
          · simp [e, b, a, q, j, i, f, g, o, p, k, y, z, w, u, v]; rfl
          · first | (simp [e, b, a, q, j, i, f, g, o, p, k, y, z, w, u, v] <;> omega) | (have hq := v; simp at hq; simp [e, b, a, q, j, i, f, g, o, p, k, y, z, w, u, v, hq]; done) | skip
        refine regv_nil ?_
        refine Wp.reg_seq (own := fun _ => false) tt_ok ?_
        iterate 2
          refine regv_pure (s1 := ?_) rfl rfl ?_ ?_ ?_
          rotate_left
          · simp [e, b, a, q, j, i, f, g, o, p, k, y, z, w, u, v]; rfl
          · first | (simp [e, b, a, q, j, i, f, g, o, p, k, y, z, w, u, v] <;> omega) | (have hq := v; simp at hq; simp [e, b, a, q, j, i, f, g, o, p, k, y, z, w, u, v, hq]; done) | skip
        obtain ⟨bj, bg, h⟩ := obind h
        obtain ⟨ad, ab, aa⟩ := atI_some bg
        try simp [e, b, a, q, j, i, f, g, o, p, k, y, z, w, u, v] at ab
        try simp only [Int.toNat_natCast, Int.reduceToNat, Nat.zero_add, Nat.add_zero] at aa
        have ac := getElem_of aa
        iterate 3
          refine regv_pure (s1 := ?_) rfl rfl ?_ ?_ ?_
          rotate_left
          · simp [e, b, a, q, j, i, f, g, o, p, k, y, z, w, u, v, ad, ab, aa, ac]; rfl
          · first | (simp [e, b, a, q, j, i, f, g, o, p, k, y, z, w, u, v, ad, ab, aa, ac] <;> omega) | (have hq := ac; simp at hq; simp [e, b, a, q, j, i, f, g, o, p, k, y, z, w, u, v, ad, ab, aa, ac, hq]; done) | skip
        refine (Bool.eq_false_or_eq_true bj).symm.elim (fun ae => ?_) (fun ae => ?_)
        · rw [if_neg (by rw [ae]; simp)] at h
          refine regv_skip (s1 := ?_) ?_ ?_ ?_
          rotate_left
          · simp [e, b, a, q, j, i, f, g, o, p, k, y, z, w, u, v, ad, ab, aa, ac, ae]; done
          · simp [e, b, a, q, j, i, f, g, o, p, k, y, z, w, u, v, ad, ab, aa, ac, ae]; rfl
          refine regv_skip (s1 := ?_) ?_ ?_ ?_
          rotate_left
          · simp [e, b, a, q, j, i, f, g, o, p, k, y, z, w, u, v, ad, ab, aa, ac, ae]; done
          · simp [e, b, a, q, j, i, f, g, o, p, k, y, z, w, u, v, ad, ab, aa, ac, ae]; rfl
          refine regv_skip (s1 := ?_) ?_ ?_ ?_
          rotate_left
          · simp [e, b, a, q, j, i, f, g, o, p, k, y, z, w, u, v, ad, ab, aa, ac, ae]; done
          · simp [e, b, a, q, j, i, f, g, o, p, k, y, z, w, u, v, ad, ab, aa, ac, ae]; rfl
          refine regv_skip (s1 := ?_) ?_ ?_ ?_
          rotate_left
          · simp [e, b, a, q, j, i, f, g, o, p, k, y, z, w, u, v, ad, ab, aa, ac, ae]; done
          · simp [e, b, a, q, j, i, f, g, o, p, k, y, z, w, u, v, ad, ab, aa, ac, ae]; rfl
          iterate 2
            refine regv_pure (s1 := ?_) rfl rfl ?_ ?_ ?_
            rotate_left
            · simp [e, b, a, q, j, i, f, g, o, p, k, y, z, w, u, v, ad, ab, aa, ac, ae]; rfl
            · first | (simp [e, b, a, q, j, i, f, g, o, p, k, y, z, w, u, v, ad, ab, aa, ac, ae] <;> omega) | (have hq := ae; simp at hq; simp [e, b, a, q, j, i, f, g, o, p, k, y, z, w, u, v, ad, ab, aa, ac, ae, hq]; done) | skip
          refine regv_skip (s1 := ?_) ?_ ?_ ?_
          rotate_left
          · simp [e, b, a, q, j, i, f, g, o, p, k, y, z, w, u, v, ad, ab, aa, ac, ae]; done
          · simp [e, b, a, q, j, i, f, g, o, p, k, y, z, w, u, v, ad, ab, aa, ac, ae]; rfl
          refine regv_skip (s1 := ?_) ?_ ?_ ?_
          rotate_left
          · simp [e, b, a, q, j, i, f, g, o, p, k, y, z, w, u, v, ad, ab, aa, ac, ae]; done
          · simp [e, b, a, q, j, i, f, g, o, p, k, y, z, w, u, v, ad, ab, aa, ac, ae]; rfl
          refine regv_skip (s1 := ?_) ?_ ?_ ?_
          rotate_left
          · simp [e, b, a, q, j, i, f, g, o, p, k, y, z, w, u, v, ad, ab, aa, ac, ae]; done
          · simp [e, b, a, q, j, i, f, g, o, p, k, y, z, w, u, v, ad, ab, aa, ac, ae]; rfl
          refine regv_skip (s1 := ?_) ?_ ?_ ?_
          rotate_left
          · simp [e, b, a, q, j, i, f, g, o, p, k, y, z, w, u, v, ad, ab, aa, ac, ae]; done
          · simp [e, b, a, q, j, i, f, g, o, p, k, y, z, w, u, v, ad, ab, aa, ac, ae]; rfl
          refine regv_skip (s1 := ?_) ?_ ?_ ?_
          rotate_left
          · simp [e, b, a, q, j, i, f, g, o, p, k, y, z, w, u, v, ad, ab, aa, ac, ae]; done
          · simp [e, b, a, q, j, i, f, g, o, p, k, y, z, w, u, v, ad, ab, aa, ac, ae]; rfl
          iterate 1
            refine regv_pure (s1 := ?_) rfl rfl ?_ ?_ ?_
            rotate_left
            · simp [e, b, a, q, j, i, f, g, o, p, k, y, z, w, u, v, ad, ab, aa, ac, ae]; rfl
            · first | (simp [e, b, a, q, j, i, f, g, o, p, k, y, z, w, u, v, ad, ab, aa, ac, ae] <;> omega) | (have hq := ae; simp at hq; simp [e, b, a, q, j, i, f, g, o, p, k, y, z, w, u, v, ad, ab, aa, ac, ae, hq]; done) | skip
          refine regv_nil ?_
          refine Wp.cond false (by first | (simp [e, b, a, q, j, i, f, g, o, p, k, y, z, w, u, v, ad, ab, aa, ac, ae] <;> omega) | (have hq := ae; simp at hq; simp [e, b, a, q, j, i, f, g, o, p, k, y, z, w, u, v, ad, ab, aa, ac, ae, hq]; done)) (fun h0 => absurd h0 (by decide)) (fun _ => ?_)
          refine Wp.skip ?_
          show Wp _ _ _ _
          refine Wp.reg (own := fun _ => false) tt_ok ?_
          iterate 2
            refine regv_pure (s1 := ?_) rfl rfl ?_ ?_ ?_
            rotate_left
            · simp [e, b, a, q, j, i, f, g, o, p, k, y, z, w, u, v, ad, ab, aa, ac, ae]; rfl
            · first | (simp [e, b, a, q, j, i, f, g, o, p, k, y, z, w, u, v, ad, ab, aa, ac, ae] <;> omega) | (have hq := ae; simp at hq; simp [e, b, a, q, j, i, f, g, o, p, k, y, z, w, u, v, ad, ab, aa, ac, ae, hq]; done) | skip
          refine regv_nil ?_
          refine next_mk (ap, aq, au, (IntKind.i64.wrap (av + 1))) h ?_
          refine Reloc.mk2 [some 0, some 1, some 2] rfl rfl rfl (by decide) ?_ ?_
          · repeat' first | exact objsLe_nil | refine objsLe_cons ?_ ?_
            all_goals first
              | exact trivial
              | (refine ObjLe.var' rfl rfl ?_ rfl
                 repeat' first | exact All2.nil | refine All2.cons ?_ ?_
                 all_goals first | (exact AvLe.refl _ rfl) | (exact AvLe.sl _ _ _ _ rfl) | (exact AvLe.hptr _ _ _ _ rfl) | (exact AvLe.mp _ _ rfl) | (exact AvLe.nil _) | (exact AvLe.znil _) | (exact AvLe.ghost _ rfl) | (exact AvLe.zghost _ rfl) | (exact AvLe.sl' rfl (by simp [e, b, a, q, j, i, f, g, o, p, k, y, z, w, u, v, ad, ab, aa, ac, ae]; done) (by first | (simp [e, b, a, q, j, i, f, g, o, p, k, y, z, w, u, v, ad, ab, aa, ac, ae] <;> omega) | omega)) | (exact AvLe.frz2 rfl (by simp) rfl (by simp [e, b, a, q, j, i, f, g, o, p, k, y, z, w, u, v, ad, ab, aa, ac, ae]; done) (by simp [e, b, a, q, j, i, f, g, o, p, k, y, z, w, u, v, ad, ab, aa, ac, ae]; done) (by simp [e, b, a, q, j, i, f, g, o, p, k, y, z, w, u, v, ad, ab, aa, ac, ae]; done)) | (exact AvLe.list' (by simp [e, b, a, q, j, i, f, g, o, p, k, y, z, w, u, v, ad, ab, aa, ac, ae]; done) (by simp [e, b, a, q, j, i, f, g, o, p, k, y, z, w, u, v, ad, ab, aa, ac, ae]; done)) | (exact AvLe.eq (by simp [e, b, a, q, j, i, f, g, o, p, k, y, z, w, u, v, ad, ab, aa, ac, ae]; done) rfl))
              | (exact ObjLe.map' rfl rfl)
              | (exact ObjLe.map2 rfl rfl (by first | (simp [e, b, a, q, j, i, f, g, o, p, k, y, z, w, u, v, ad, ab, aa, ac, ae]; done) | (simp [e, b, a, q, j, i, f, g, o, p, k, y, z, w, u, v, ad, ab, aa, ac, ae]; rfl)))
              | (exact ObjLe.slot' rfl)
              | (exact ObjLe.ghost' rfl (by decide))
              | (exact ObjLe.arr' rfl rfl (by first | (simp [e, b, a, q, j, i, f, g, o, p, k, y, z, w, u, v, ad, ab, aa, ac, ae] <;> omega)) (fun _ _ => by first | rfl | (simp [e, b, a, q, j, i, f, g, o, p, k, y, z, w, u, v, ad, ab, aa, ac, ae]; done)))
              | ((simp [e, b, a, q, j, i, f, g, o, p, k, y, z, w, u, v, ad, ab, aa, ac, ae]; done))
          · repeat' first | exact chLe_nil | refine chLe_cons ?_ ?_ | exact AvLe.refl _ rfl | refine AvLe.aggs ?_ | exact All2.nil | refine All2.cons ?_ ?_
            all_goals first
              | (exact AvLe.refl _ rfl)
              | (exact AvLe.sl _ _ _ _ rfl)
              | (exact AvLe.hptr _ _ _ _ rfl)
              | (exact AvLe.mp _ _ rfl)
              | (exact AvLe.nil _)
              | (exact AvLe.znil _)
              | (exact AvLe.ghost _ rfl)
              | (exact AvLe.zghost _ rfl)
              | (exact AvLe.sl' rfl (by simp [e, b, a, q, j, i, f, g, o, p, k, y, z, w, u, v, ad, ab, aa, ac, ae]; done) (by first | (simp [e, b, a, q, j, i, f, g, o, p, k, y, z, w, u, v, ad, ab, aa, ac, ae] <;> omega) | omega))
              | (exact AvLe.frz2 rfl (by simp) rfl (by simp [e, b, a, q, j, i, f, g, o, p, k, y, z, w, u, v, ad, ab, aa, ac, ae]; done) (by simp [e, b, a, q, j, i, f, g, o, p, k, y, z, w, u, v, ad, ab, aa, ac, ae]; done) (by simp [e, b, a, q, j, i, f, g, o, p, k, y, z, w, u, v, ad, ab, aa, ac, ae]; done))
              | (exact AvLe.list' (by simp [e, b, a, q, j, i, f, g, o, p, k, y, z, w, u, v, ad, ab, aa, ac, ae]; done) (by simp [e, b, a, q, j, i, f, g, o, p, k, y, z, w, u, v, ad, ab, aa, ac, ae]; done))
              | (exact AvLe.eq (by simp [e, b, a, q, j, i, f, g, o, p, k, y, z, w, u, v, ad, ab, aa, ac, ae]; done) rfl)
        · rw [if_pos ae] at h
          refine regv_pure (s1 := ?_) rfl ?_ ?_ ?_ ?_
          rotate_left
          · simp [e, b, a, q, j, i, f, g, o, p, k, y, z, w, u, v, ad, ab, aa, ac, ae]; done
          · simp [e, b, a, q, j, i, f, g, o, p, k, y, z, w, u, v, ad, ab, aa, ac, ae]; rfl
          · first | (simp [e, b, a, q, j, i, f, g, o, p, k, y, z, w, u, v, ad, ab, aa, ac, ae] <;> omega) | (have hq := ae; simp at hq; simp [e, b, a, q, j, i, f, g, o, p, k, y, z, w, u, v, ad, ab, aa, ac, ae, hq]; done) | skip
          refine regv_pure (s1 := ?_) rfl ?_ ?_ ?_ ?_
          rotate_left
          · simp [e, b, a, q, j, i, f, g, o, p, k, y, z, w, u, v, ad, ab, aa, ac, ae]; done
          · simp [e, b, a, q, j, i, f, g, o, p, k, y, z, w, u, v, ad, ab, aa, ac, ae]; rfl
          · first | (simp [e, b, a, q, j, i, f, g, o, p, k, y, z, w, u, v, ad, ab, aa, ac, ae] <;> omega) | (have hq := ae; simp at hq; simp [e, b, a, q, j, i, f, g, o, p, k, y, z, w, u, v, ad, ab, aa, ac, ae, hq]; done) | skip
          refine regv_pure (s1 := ?_) rfl ?_ ?_ ?_ ?_
          rotate_left
          · simp [e, b, a, q, j, i, f, g, o, p, k, y, z, w, u, v, ad, ab, aa, ac, ae]; done
          · simp [e, b, a, q, j, i, f, g, o, p, k, y, z, w, u, v, ad, ab, aa, ac, ae]; rfl
          · first | (simp [e, b, a, q, j, i, f, g, o, p, k, y, z, w, u, v, ad, ab, aa, ac, ae] <;> omega) | (have hq := ae; simp at hq; simp [e, b, a, q, j, i, f, g, o, p, k, y, z, w, u, v, ad, ab, aa, ac, ae, hq]; done) | skip
          refine regv_pure (s1 := ?_) rfl ?_ ?_ ?_ ?_
          rotate_left
          · simp [e, b, a, q, j, i, f, g, o, p, k, y, z, w, u, v, ad, ab, aa, ac, ae]; done
          · simp [e, b, a, q, j, i, f, g, o, p, k, y, z, w, u, v, ad, ab, aa, ac, ae]; rfl
          · first | (simp [e, b, a, q, j, i, f, g, o, p, k, y, z, w, u, v, ad, ab, aa, ac, ae] <;> omega) | (have hq := ae; simp at hq; simp [e, b, a, q, j, i, f, g, o, p, k, y, z, w, u, v, ad, ab, aa, ac, ae, hq]; done) | skip
          iterate 2
            refine regv_pure (s1 := ?_) rfl rfl ?_ ?_ ?_
            rotate_left
            · simp [e, b, a, q, j, i, f, g, o, p, k, y, z, w, u, v, ad, ab, aa, ac, ae]; rfl
            · first | (simp [e, b, a, q, j, i, f, g, o, p, k, y, z, w, u, v, ad, ab, aa, ac, ae] <;> omega) | (have hq := ae; simp at hq; simp [e, b, a, q, j, i, f, g, o, p, k, y, z, w, u, v, ad, ab, aa, ac, ae, hq]; done) | skip
          refine (Decidable.em (bd.From = az)).symm.elim (fun ai => ?_) (fun ai => ?_)
          · rw [if_neg (by simpa using ai)] at h
            refine regv_skip (s1 := ?_) ?_ ?_ ?_
            rotate_left
            · simp [e, b, a, q, j, i, f, g, o, p, k, y, z, w, u, v, ad, ab, aa, ac, ae, ai]; done
            · simp [e, b, a, q, j, i, f, g, o, p, k, y, z, w, u, v, ad, ab, aa, ac, ae, ai]; rfl
            refine regv_skip (s1 := ?_) ?_ ?_ ?_
            rotate_left
            · simp [e, b, a, q, j, i, f, g, o, p, k, y, z, w, u, v, ad, ab, aa, ac, ae, ai]; done
            · simp [e, b, a, q, j, i, f, g, o, p, k, y, z, w, u, v, ad, ab, aa, ac, ae, ai]; rfl
            refine regv_skip (s1 := ?_) ?_ ?_ ?_
            rotate_left
            · simp [e, b, a, q, j, i, f, g, o, p, k, y, z, w, u, v, ad, ab, aa, ac, ae, ai]; done
            · simp [e, b, a, q, j, i, f, g, o, p, k, y, z, w, u, v, ad, ab, aa, ac, ae, ai]; rfl
            refine regv_skip (s1 := ?_) ?_ ?_ ?_
            rotate_left
            · simp [e, b, a, q, j, i, f, g, o, p, k, y, z, w, u, v, ad, ab, aa, ac, ae, ai]; done
            · simp [e, b, a, q, j, i, f, g, o, p, k, y, z, w, u, v, ad, ab, aa, ac, ae, ai]; rfl
            refine regv_skip (s1 := ?_) ?_ ?_ ?_
            rotate_left
            · simp [e, b, a, q, j, i, f, g, o, p, k, y, z, w, u, v, ad, ab, aa, ac, ae, ai]; done
            · simp [e, b, a, q, j, i, f, g, o, p, k, y, z, w, u, v, ad, ab, aa, ac, ae, ai]; rfl
            iterate 1
              refine regv_pure (s1 := ?_) rfl rfl ?_ ?_ ?_
              rotate_left
              · simp [e, b, a, q, j, i, f, g, o, p, k, y, z, w, u, v, ad, ab, aa, ac, ae, ai]; rfl
              · first | (simp [e, b, a, q, j, i, f, g, o, p, k, y, z, w, u, v, ad, ab, aa, ac, ae, ai] <;> omega) | (have hq := ai; simp at hq; simp [e, b, a, q, j, i, f, g, o, p, k, y, z, w, u, v, ad, ab, aa, ac, ae, ai, hq]; done) | skip
            refine regv_nil ?_
            refine Wp.cond false (by first | (simp [e, b, a, q, j, i, f, g, o, p, k, y, z, w, u, v, ad, ab, aa, ac, ae, ai] <;> omega) | (have hq := ai; simp at hq; simp [e, b, a, q, j, i, f, g, o, p, k, y, z, w, u, v, ad, ab, aa, ac, ae, ai, hq]; done)) (fun h0 => absurd h0 (by decide)) (fun _ => ?_)
            refine Wp.skip ?_
            show Wp _ _ _ _
            refine Wp.reg (own := fun _ => false) tt_ok ?_
            iterate 2
              refine regv_pure (s1 := ?_) rfl rfl ?_ ?_ ?_
              rotate_left
              · simp [e, b, a, q, j, i, f, g, o, p, k, y, z, w, u, v, ad, ab, aa, ac, ae, ai]; rfl
              · first | (simp [e, b, a, q, j, i, f, g, o, p, k, y, z, w, u, v, ad, ab, aa, ac, ae, ai] <;> omega) | (have hq := ai; simp at hq; simp [e, b, a, q, j, i, f, g, o, p, k, y, z, w, u, v, ad, ab, aa, ac, ae, ai, hq]; done) | skip
            refine regv_nil ?_
            refine next_mk (ap, aq, au, (IntKind.i64.wrap (av + 1))) h ?_
            refine Reloc.mk2 [some 0, some 1, some 2] rfl rfl rfl (by decide) ?_ ?_
            · repeat' first | exact objsLe_nil | refine objsLe_cons ?_ ?_
              all_goals first
                | exact trivial
                | (refine ObjLe.var' rfl rfl ?_ rfl
                   repeat' first | exact All2.nil | refine All2.cons ?_ ?_
                   all_goals first | (exact AvLe.refl _ rfl) | (exact AvLe.sl _ _ _ _ rfl) | (exact AvLe.hptr _ _ _ _ rfl) | (exact AvLe.mp _ _ rfl) | (exact AvLe.nil _) | (exact AvLe.znil _) | (exact AvLe.ghost _ rfl) | (exact AvLe.zghost _ rfl) | (exact AvLe.sl' rfl (by simp [e, b, a, q, j, i, f, g, o, p, k, y, z, w, u, v, ad, ab, aa, ac, ae, ai]; done) (by first | (simp [e, b, a, q, j, i, f, g, o, p, k, y, z, w, u, v, ad, ab, aa, ac, ae, ai] <;> omega) | omega)) | (exact AvLe.frz2 rfl (by simp) rfl (by simp [e, b, a, q, j, i, f, g, o, p, k, y, z, w, u, v, ad, ab, aa, ac, ae, ai]; done) (by simp [e, b, a, q, j, i, f, g, o, p, k, y, z, w, u, v, ad, ab, aa, ac, ae, ai]; done) (by simp [e, b, a, q, j, i, f, g, o, p, k, y, z, w, u, v, ad, ab, aa, ac, ae, ai]; done)) | (exact AvLe.list' (by simp [e, b, a, q, j, i, f, g, o, p, k, y, z, w, u, v, ad, ab, aa, ac, ae, ai]; done) (by simp [e, b, a, q, j, i, f, g, o, p, k, y, z, w, u, v, ad, ab, aa, ac, ae, ai]; done)) | (exact AvLe.eq (by simp [e, b, a, q, j, i, f, g, o, p, k, y, z, w, u, v, ad, ab, aa, ac, ae, ai]; done) rfl))
                | (exact ObjLe.map' rfl rfl)
                | (exact ObjLe.map2 rfl rfl (by first | (simp [e, b, a, q, j, i, f, g, o, p, k, y, z, w, u, v, ad, ab, aa, ac, ae, ai]; done) | (simp [e, b, a, q, j, i, f, g, o, p, k, y, z, w, u, v, ad, ab, aa, ac, ae, ai]; rfl)))
                | (exact ObjLe.slot' rfl)
                | (exact ObjLe.ghost' rfl (by decide))
                | (exact ObjLe.arr' rfl rfl (by first | (simp [e, b, a, q, j, i, f, g, o, p, k, y, z, w, u, v, ad, ab, aa, ac, ae, ai] <;> omega)) (fun _ _ => by first | rfl | (simp [e, b, a, q, j, i, f, g, o, p, k, y, z, w, u, v, ad, ab, aa, ac, ae, ai]; done)))
                | ((simp [e, b, a, q, j, i, f, g, o, p, k, y, z, w, u, v, ad, ab, aa, ac, ae, ai]; done))
            · repeat' first | exact chLe_nil | refine chLe_cons ?_ ?_ | exact AvLe.refl _ rfl | refine AvLe.aggs ?_ | exact All2.nil | refine All2.cons ?_ ?_
              all_goals first
                | (exact AvLe.refl _ rfl)
                | (exact AvLe.sl _ _ _ _ rfl)
                | (exact AvLe.hptr _ _ _ _ rfl)
                | (exact AvLe.mp _ _ rfl)
                | (exact AvLe.nil _)
                | (exact AvLe.znil _)
                | (exact AvLe.ghost _ rfl)
                | (exact AvLe.zghost _ rfl)
                | (exact AvLe.sl' rfl (by simp [e, b, a, q, j, i, f, g, o, p, k, y, z, w, u, v, ad, ab, aa, ac, ae, ai]; done) (by first | (simp [e, b, a, q, j, i, f, g, o, p, k, y, z, w, u, v, ad, ab, aa, ac, ae, ai] <;> omega) | omega))
                | (exact AvLe.frz2 rfl (by simp) rfl (by simp [e, b, a, q, j, i, f, g, o, p, k, y, z, w, u, v, ad, ab, aa, ac, ae, ai]; done) (by simp [e, b, a, q, j, i, f, g, o, p, k, y, z, w, u, v, ad, ab, aa, ac, ae, ai]; done) (by simp [e, b, a, q, j, i, f, g, o, p, k, y, z, w, u, v, ad, ab, aa, ac, ae, ai]; done))
                | (exact AvLe.list' (by simp [e, b, a, q, j, i, f, g, o, p, k, y, z, w, u, v, ad, ab, aa, ac, ae, ai]; done) (by simp [e, b, a, q, j, i, f, g, o, p, k, y, z, w, u, v, ad, ab, aa, ac, ae, ai]; done))
                | (exact AvLe.eq (by simp [e, b, a, q, j, i, f, g, o, p, k, y, z, w, u, v, ad, ab, aa, ac, ae, ai]; done) rfl)
          · rw [if_pos (decide_eq_true ai)] at h
            have af := eq_true ai
            refine regv_pure (s1 := ?_) rfl ?_ ?_ ?_ ?_
            rotate_left
            · simp [e, b, a, q, j, i, f, g, o, p, k, y, z, w, u, v, ad, ab, aa, ac, ae, af]; done
            · simp [e, b, a, q, j, i, f, g, o, p, k, y, z, w, u, v, ad, ab, aa, ac, ae, af]; rfl
            · first | (simp [e, b, a, q, j, i, f, g, o, p, k, y, z, w, u, v, ad, ab, aa, ac, ae, af] <;> omega) | (have hq := af; simp at hq; simp [e, b, a, q, j, i, f, g, o, p, k, y, z, w, u, v, ad, ab, aa, ac, ae, af, hq]; done) | skip
            refine regv_pure (s1 := ?_) rfl ?_ ?_ ?_ ?_
            rotate_left
            · simp [e, b, a, q, j, i, f, g, o, p, k, y, z, w, u, v, ad, ab, aa, ac, ae, af]; done
            · simp [e, b, a, q, j, i, f, g, o, p, k, y, z, w, u, v, ad, ab, aa, ac, ae, af]; rfl
            · first | (simp [e, b, a, q, j, i, f, g, o, p, k, y, z, w, u, v, ad, ab, aa, ac, ae, af] <;> omega) | (have hq := af; simp at hq; simp [e, b, a, q, j, i, f, g, o, p, k, y, z, w, u, v, ad, ab, aa, ac, ae, af, hq]; done) | skip
            refine regv_pure (s1 := ?_) rfl ?_ ?_ ?_ ?_
            rotate_left
            · simp [e, b, a, q, j, i, f, g, o, p, k, y, z, w, u, v, ad, ab, aa, ac, ae, af]; done
            · simp [e, b, a, q, j, i, f, g, o, p, k, y, z, w, u, v, ad, ab, aa, ac, ae, af]; rfl
            · first | (simp [e, b, a, q, j, i, f, g, o, p, k, y, z, w, u, v, ad, ab, aa, ac, ae, af] <;> omega) | (have hq := af; simp at hq; simp [e, b, a, q, j, i, f, g, o, p, k, y, z, w, u, v, ad, ab, aa, ac, ae, af, hq]; done) | skip
            refine regv_pure (s1 := ?_) rfl ?_ ?_ ?_ ?_
            rotate_left
            · simp [e, b, a, q, j, i, f, g, o, p, k, y, z, w, u, v, ad, ab, aa, ac, ae, af]; done
            · simp [e, b, a, q, j, i, f, g, o, p, k, y, z, w, u, v, ad, ab, aa, ac, ae, af]; rfl
            · first | (simp [e, b, a, q, j, i, f, g, o, p, k, y, z, w, u, v, ad, ab, aa, ac, ae, af] <;> omega) | (have hq := af; simp at hq; simp [e, b, a, q, j, i, f, g, o, p, k, y, z, w, u, v, ad, ab, aa, ac, ae, af, hq]; done) | skip
            refine regv_pure (s1 := ?_) rfl ?_ ?_ ?_ ?_
            rotate_left
            · simp [e, b, a, q, j, i, f, g, o, p, k, y, z, w, u, v, ad, ab, aa, ac, ae, af]; done
            · simp [e, b, a, q, j, i, f, g, o, p, k, y, z, w, u, v, ad, ab, aa, ac, ae, af]; rfl
            · first | (simp [e, b, a, q, j, i, f, g, o, p, k, y, z, w, u, v, ad, ab, aa, ac, ae, af] <;> omega) | (have hq := af; simp at hq; simp [e, b, a, q, j, i, f, g, o, p, k, y, z, w, u, v, ad, ab, aa, ac, ae, af, hq]; done) | skip
            iterate 1
              refine regv_pure (s1 := ?_) rfl rfl ?_ ?_ ?_
              rotate_left
              · simp [e, b, a, q, j, i, f, g, o, p, k, y, z, w, u, v, ad, ab, aa, ac, ae, af]; rfl
              · first | (simp [e, b, a, q, j, i, f, g, o, p, k, y, z, w, u, v, ad, ab, aa, ac, ae, af] <;> omega) | (have hq := af; simp at hq; simp [e, b, a, q, j, i, f, g, o, p, k, y, z, w, u, v, ad, ab, aa, ac, ae, af, hq]; done) | skip
            refine regv_nil ?_
            cases ag : (!((mGet ap bd.To).getD false))
            · rw [ag, if_neg (by simp)] at h
              refine Wp.cond false (by first | (simp [e, b, a, q, j, i, f, g, o, p, k, y, z, w, u, v, ad, ab, aa, ac, ae, af, ag] <;> omega) | (have hq := ag; simp at hq; simp [e, b, a, q, j, i, f, g, o, p, k, y, z, w, u, v, ad, ab, aa, ac, ae, af, ag, hq]; done)) (fun h0 => absurd h0 (by decide)) (fun _ => ?_)
              refine Wp.skip ?_
              show Wp _ _ _ _
              refine Wp.reg (own := fun _ => false) tt_ok ?_
              iterate 2
                refine regv_pure (s1 := ?_) rfl rfl ?_ ?_ ?_
                rotate_left
                · simp [e, b, a, q, j, i, f, g, o, p, k, y, z, w, u, v, ad, ab, aa, ac, ae, af, ag]; rfl
                · first | (simp [e, b, a, q, j, i, f, g, o, p, k, y, z, w, u, v, ad, ab, aa, ac, ae, af, ag] <;> omega) | (have hq := ag; simp at hq; simp [e, b, a, q, j, i, f, g, o, p, k, y, z, w, u, v, ad, ab, aa, ac, ae, af, ag, hq]; done) | skip
              refine regv_nil ?_
              refine next_mk (ap, aq, au, (IntKind.i64.wrap (av + 1))) h ?_
              refine Reloc.mk2 [some 0, some 1, some 2] rfl rfl rfl (by decide) ?_ ?_
              · repeat' first | exact objsLe_nil | refine objsLe_cons ?_ ?_
                all_goals first
                  | exact trivial
                  | (refine ObjLe.var' rfl rfl ?_ rfl
                     repeat' first | exact All2.nil | refine All2.cons ?_ ?_
                     all_goals first | (exact AvLe.refl _ rfl) | (exact AvLe.sl _ _ _ _ rfl) | (exact AvLe.hptr _ _ _ _ rfl) | (exact AvLe.mp _ _ rfl) | (exact AvLe.nil _) | (exact AvLe.znil _) | (exact AvLe.ghost _ rfl) | (exact AvLe.zghost _ rfl) | (exact AvLe.sl' rfl (by simp [e, b, a, q, j, i, f, g, o, p, k, y, z, w, u, v, ad, ab, aa, ac, ae, af, ag]; done) (by first | (simp [e, b, a, q, j, i, f, g, o, p, k, y, z, w, u, v, ad, ab, aa, ac, ae, af, ag] <;> omega) | omega)) | (exact AvLe.frz2 rfl (by simp) rfl (by simp [e, b, a, q, j, i, f, g, o, p, k, y, z, w, u, v, ad, ab, aa, ac, ae, af, ag]; done) (by simp [e, b, a, q, j, i, f, g, o, p, k, y, z, w, u, v, ad, ab, aa, ac, ae, af, ag]; done) (by simp [e, b, a, q, j, i, f, g, o, p, k, y, z, w, u, v, ad, ab, aa, ac, ae, af, ag]; done)) | (exact AvLe.list' (by simp [e, b, a, q, j, i, f, g, o, p, k, y, z, w, u, v, ad, ab, aa, ac, ae, af, ag]; done) (by simp [e, b, a, q, j, i, f, g, o, p, k, y, z, w, u, v, ad, ab, aa, ac, ae, af, ag]; done)) | (exact AvLe.eq (by simp [e, b, a, q, j, i, f, g, o, p, k, y, z, w, u, v, ad, ab, aa, ac, ae, af, ag]; done) rfl))
                  | (exact ObjLe.map' rfl rfl)
                  | (exact ObjLe.map2 rfl rfl (by first | (simp [e, b, a, q, j, i, f, g, o, p, k, y, z, w, u, v, ad, ab, aa, ac, ae, af, ag]; done) | (simp [e, b, a, q, j, i, f, g, o, p, k, y, z, w, u, v, ad, ab, aa, ac, ae, af, ag]; rfl)))
                  | (exact ObjLe.slot' rfl)
                  | (exact ObjLe.ghost' rfl (by decide))
                  | (exact ObjLe.arr' rfl rfl (by first | (simp [e, b, a, q, j, i, f, g, o, p, k, y, z, w, u, v, ad, ab, aa, ac, ae, af, ag] <;> omega)) (fun _ _ => by first | rfl | (simp [e, b, a, q, j, i, f, g, o, p, k, y, z, w, u, v, ad, ab, aa, ac, ae, af, ag]; done)))
                  | ((simp [e, b, a, q, j, i, f, g, o, p, k, y, z, w, u, v, ad, ab, aa, ac, ae, af, ag]; done))
              · repeat' first | exact chLe_nil | refine chLe_cons ?_ ?_ | exact AvLe.refl _ rfl | refine AvLe.aggs ?_ | exact All2.nil | refine All2.cons ?_ ?_
                all_goals first
                  | (exact AvLe.refl _ rfl)
                  | (exact AvLe.sl _ _ _ _ rfl)
                  | (exact AvLe.hptr _ _ _ _ rfl)
                  | (exact AvLe.mp _ _ rfl)
                  | (exact AvLe.nil _)
                  | (exact AvLe.znil _)
                  | (exact AvLe.ghost _ rfl)
                  | (exact AvLe.zghost _ rfl)
                  | (exact AvLe.sl' rfl (by simp [e, b, a, q, j, i, f, g, o, p, k, y, z, w, u, v, ad, ab, aa, ac, ae, af, ag]; done) (by first | (simp [e, b, a, q, j, i, f, g, o, p, k, y, z, w, u, v, ad, ab, aa, ac, ae, af, ag] <;> omega) | omega))
                  | (exact AvLe.frz2 rfl (by simp) rfl (by simp [e, b, a, q, j, i, f, g, o, p, k, y, z, w, u, v, ad, ab, aa, ac, ae, af, ag]; done) (by simp [e, b, a, q, j, i, f, g, o, p, k, y, z, w, u, v, ad, ab, aa, ac, ae, af, ag]; done) (by simp [e, b, a, q, j, i, f, g, o, p, k, y, z, w, u, v, ad, ab, aa, ac, ae, af, ag]; done))
                  | (exact AvLe.list' (by simp [e, b, a, q, j, i, f, g, o, p, k, y, z, w, u, v, ad, ab, aa, ac, ae, af, ag]; done) (by simp [e, b, a, q, j, i, f, g, o, p, k, y, z, w, u, v, ad, ab, aa, ac, ae, af, ag]; done))
                  | (exact AvLe.eq (by simp [e, b, a, q, j, i, f, g, o, p, k, y, z, w, u, v, ad, ab, aa, ac, ae, af, ag]; done) rfl)
            · rw [ag, if_pos rfl] at h
              refine Wp.cond true (by first | (simp [e, b, a, q, j, i, f, g, o, p, k, y, z, w, u, v, ad, ab, aa, ac, ae, af, ag] <;> omega) | (have hq := ag; simp at hq; simp [e, b, a, q, j, i, f, g, o, p, k, y, z, w, u, v, ad, ab, aa, ac, ae, af, ag, hq]; done)) (fun _ => ?_) (fun h0 => absurd h0 (by decide))
              refine Wp.reg_seq (own := fun _ => false) tt_ok ?_
              iterate 4
                refine regv_pure (s1 := ?_) rfl rfl ?_ ?_ ?_
                rotate_left
                · simp [e, b, a, q, j, i, f, g, o, p, k, y, z, w, u, v, ad, ab, aa, ac, ae, af, ag]; rfl
                · first | (simp [e, b, a, q, j, i, f, g, o, p, k, y, z, w, u, v, ad, ab, aa, ac, ae, af, ag] <;> omega) | (have hq := ag; simp at hq; simp [e, b, a, q, j, i, f, g, o, p, k, y, z, w, u, v, ad, ab, aa, ac, ae, af, ag, hq]; done) | skip
              refine regv_nil ?_
              refine Wp.reg (own := fun _ => false) tt_ok ?_
              iterate 4
                refine regv_pure (s1 := ?_) rfl rfl ?_ ?_ ?_
                rotate_left
                · simp [e, b, a, q, j, i, f, g, o, p, k, y, z, w, u, v, ad, ab, aa, ac, ae, af, ag]; rfl
                · first | (simp [e, b, a, q, j, i, f, g, o, p, k, y, z, w, u, v, ad, ab, aa, ac, ae, af, ag] <;> omega) | (have hq := ag; simp at hq; simp [e, b, a, q, j, i, f, g, o, p, k, y, z, w, u, v, ad, ab, aa, ac, ae, af, ag, hq]; done) | skip
              obtain ⟨⟨ak, aj⟩, h⟩ := oguard h
              iterate 1
                refine regv_pure (s1 := ?_) rfl rfl ?_ ?_ ?_
                rotate_left
                · simp [e, b, a, q, j, i, f, g, o, p, k, y, z, w, u, v, ad, ab, aa, ac, ae, af, ag, ak, aj]; rfl
                · first | (simp [e, b, a, q, j, i, f, g, o, p, k, y, z, w, u, v, ad, ab, aa, ac, ae, af, ag, ak, aj] <;> omega) | (have hq := aj; simp at hq; simp [e, b, a, q, j, i, f, g, o, p, k, y, z, w, u, v, ad, ab, aa, ac, ae, af, ag, ak, aj, hq]; done) | skip
              obtain ⟨bk, bb, h⟩ := obind h
              have ao := congrArg (List.map cS) (Option.some.inj bb)
              have am := (congrArg List.length (Option.some.inj bb)).symm
              try simp [e, b, a, q, j, i, f, g, o, p, k, y, z, w, u, v, ad, ab, aa, ac, ae, af, ag, ak, aj] at ao
              try simp [e, b, a, q, j, i, f, g, o, p, k, y, z, w, u, v, ad, ab, aa, ac, ae, af, ag, ak, aj] at am
              clear bb
              try simp only [ao]
              iterate 1
                refine regv_pure (s1 := ?_) rfl rfl ?_ ?_ ?_
                rotate_left
                · simp [e, b, a, q, j, i, f, g, o, p, k, y, z, w, u, v, ad, ab, aa, ac, ae, af, ag, ak, aj, ao, am]; rfl
                · first | (simp [e, b, a, q, j, i, f, g, o, p, k, y, z, w, u, v, ad, ab, aa, ac, ae, af, ag, ak, aj, ao, am] <;> omega) | (have hq := am; simp at hq; simp [e, b, a, q, j, i, f, g, o, p, k, y, z, w, u, v, ad, ab, aa, ac, ae, af, ag, ak, aj, ao, am, hq]; done) | skip
              refine regv_nil ?_
              show Wp _ _ _ _
              refine Wp.reg (own := fun _ => false) tt_ok ?_
              iterate 2
                refine regv_pure (s1 := ?_) rfl rfl ?_ ?_ ?_
                rotate_left
                · simp [e, b, a, q, j, i, f, g, o, p, k, y, z, w, u, v, ad, ab, aa, ac, ae, af, ag, ak, aj, ao, am]; rfl
                · first | (simp [e, b, a, q, j, i, f, g, o, p, k, y, z, w, u, v, ad, ab, aa, ac, ae, af, ag, ak, aj, ao, am] <;> omega) | (have hq := am; simp at hq; simp [e, b, a, q, j, i, f, g, o, p, k, y, z, w, u, v, ad, ab, aa, ac, ae, af, ag, ak, aj, ao, am, hq]; done) | skip
              refine regv_nil ?_
              refine next_mk ((mPut ap bd.To true), bk, 0, (IntKind.i64.wrap (av + 1))) h ?_
              refine Reloc.mk2 [some 0, some 1, some 4] rfl rfl rfl (by decide) ?_ ?_
              · repeat' first | exact objsLe_nil | refine objsLe_cons ?_ ?_
                all_goals first
                  | exact trivial
                  | (refine ObjLe.var' rfl rfl ?_ rfl
                     repeat' first | exact All2.nil | refine All2.cons ?_ ?_
                     all_goals first | (exact AvLe.refl _ rfl) | (exact AvLe.sl _ _ _ _ rfl) | (exact AvLe.hptr _ _ _ _ rfl) | (exact AvLe.mp _ _ rfl) | (exact AvLe.nil _) | (exact AvLe.znil _) | (exact AvLe.ghost _ rfl) | (exact AvLe.zghost _ rfl) | (exact AvLe.sl' rfl (by simp [e, b, a, q, j, i, f, g, o, p, k, y, z, w, u, v, ad, ab, aa, ac, ae, af, ag, ak, aj, ao, am]; done) (by first | (simp [e, b, a, q, j, i, f, g, o, p, k, y, z, w, u, v, ad, ab, aa, ac, ae, af, ag, ak, aj, ao, am] <;> omega) | omega)) | (exact AvLe.frz2 rfl (by simp) rfl (by simp [e, b, a, q, j, i, f, g, o, p, k, y, z, w, u, v, ad, ab, aa, ac, ae, af, ag, ak, aj, ao, am]; done) (by simp [e, b, a, q, j, i, f, g, o, p, k, y, z, w, u, v, ad, ab, aa, ac, ae, af, ag, ak, aj, ao, am]; done) (by simp [e, b, a, q, j, i, f, g, o, p, k, y, z, w, u, v, ad, ab, aa, ac, ae, af, ag, ak, aj, ao, am]; done)) | (exact AvLe.list' (by simp [e, b, a, q, j, i, f, g, o, p, k, y, z, w, u, v, ad, ab, aa, ac, ae, af, ag, ak, aj, ao, am]; done) (by simp [e, b, a, q, j, i, f, g, o, p, k, y, z, w, u, v, ad, ab, aa, ac, ae, af, ag, ak, aj, ao, am]; done)) | (exact AvLe.eq (by simp [e, b, a, q, j, i, f, g, o, p, k, y, z, w, u, v, ad, ab, aa, ac, ae, af, ag, ak, aj, ao, am]; done) rfl))
                  | (exact ObjLe.map' rfl rfl)
                  | (exact ObjLe.map2 rfl rfl (by first | (simp [e, b, a, q, j, i, f, g, o, p, k, y, z, w, u, v, ad, ab, aa, ac, ae, af, ag, ak, aj, ao, am]; done) | (simp [e, b, a, q, j, i, f, g, o, p, k, y, z, w, u, v, ad, ab, aa, ac, ae, af, ag, ak, aj, ao, am]; rfl)))
                  | (exact ObjLe.slot' rfl)
                  | (exact ObjLe.ghost' rfl (by decide))
                  | (exact ObjLe.arr' rfl rfl (by first | (simp [e, b, a, q, j, i, f, g, o, p, k, y, z, w, u, v, ad, ab, aa, ac, ae, af, ag, ak, aj, ao, am] <;> omega)) (fun _ _ => by first | rfl | (simp [e, b, a, q, j, i, f, g, o, p, k, y, z, w, u, v, ad, ab, aa, ac, ae, af, ag, ak, aj, ao, am]; done)))
                  | ((simp [e, b, a, q, j, i, f, g, o, p, k, y, z, w, u, v, ad, ab, aa, ac, ae, af, ag, ak, aj, ao, am]; done))
              · repeat' first | exact chLe_nil | refine chLe_cons ?_ ?_ | exact AvLe.refl _ rfl | refine AvLe.aggs ?_ | exact All2.nil | refine All2.cons ?_ ?_
                all_goals first
                  | (exact AvLe.refl _ rfl)
                  | (exact AvLe.sl _ _ _ _ rfl)
                  | (exact AvLe.hptr _ _ _ _ rfl)
                  | (exact AvLe.mp _ _ rfl)
                  | (exact AvLe.nil _)
                  | (exact AvLe.znil _)
                  | (exact AvLe.ghost _ rfl)
                  | (exact AvLe.zghost _ rfl)
                  | (exact AvLe.sl' rfl (by simp [e, b, a, q, j, i, f, g, o, p, k, y, z, w, u, v, ad, ab, aa, ac, ae, af, ag, ak, aj, ao, am]; done) (by first | (simp [e, b, a, q, j, i, f, g, o, p, k, y, z, w, u, v, ad, ab, aa, ac, ae, af, ag, ak, aj, ao, am] <;> omega) | omega))
                  | (exact AvLe.frz2 rfl (by simp) rfl (by simp [e, b, a, q, j, i, f, g, o, p, k, y, z, w, u, v, ad, ab, aa, ac, ae, af, ag, ak, aj, ao, am]; done) (by simp [e, b, a, q, j, i, f, g, o, p, k, y, z, w, u, v, ad, ab, aa, ac, ae, af, ag, ak, aj, ao, am]; done) (by simp [e, b, a, q, j, i, f, g, o, p, k, y, z, w, u, v, ad, ab, aa, ac, ae, af, ag, ak, aj, ao, am]; done))
                  | (exact AvLe.list' (by simp [e, b, a, q, j, i, f, g, o, p, k, y, z, w, u, v, ad, ab, aa, ac, ae, af, ag, ak, aj, ao, am]; done) (by simp [e, b, a, q, j, i, f, g, o, p, k, y, z, w, u, v, ad, ab, aa, ac, ae, af, ag, ak, aj, ao, am]; done))
                  | (exact AvLe.eq (by simp [e, b, a, q, j, i, f, g, o, p, k, y, z, w, u, v, ad, ab, aa, ac, ae, af, ag, ak, aj, ao, am]; done) rfl)
  · rw [e, if_pos rfl] at h
    refine Wp.cond true (by first | (simp [e] <;> omega) | (have hq := e; simp at hq; simp [e, hq]; done)) (fun _ => ?_) (fun h0 => absurd h0 (by decide))
    refine Wp.reg_seq (own := fun _ => false) tt_ok ?_
    iterate 2
      refine regv_pure (s1 := ?_) rfl rfl ?_ ?_ ?_
      rotate_left
      · simp [e]; rfl
      · first | (simp [e] <;> omega) | (have hq := e; simp at hq; simp [e, hq]; done) | skip
    refine regv_nil ?_
    cases h
    refine Wp.ret (endQ_ret0 rfl ?_)
    repeat' first | exact All2.nil | refine All2.cons ?_ ?_ | refine AvLe.tups ?_ | refine AvLe.aggs ?_
    all_goals first
      | (exact AvLe.refl _ rfl)
      | (exact AvLe.nil _)
      | (exact AvLe.znil _)
      | (exact AvLe.ghost _ rfl)
      | (exact AvLe.zghost _ rfl)
      | (exact AvLe.sl' rfl (by simp [e]; done) (by simp [e]; done))
      | (exact AvLe.frz' rfl rfl rfl (by simp [e]; done) (by simp [e]; done) (by simp [e]; done))
      | (exact AvLe.list' (by simp [e]; done) (by simp [e]; done))
      | (exact AvLe.eq (by simp [e]; done) rfl)

theorem con_rungeval_Scan {n : Nat} {r_0 : ApiRung} {in1 : List Bool} {st2 : ApiState} {slot3 : Int} {r : ApiState × Bool × Int} (h : rungeval_Scan n r_0 in1 st2 slot3 = some r) : Con Try.prog 16 [.agg (cApiRung r_0), aL cB in1, .agg (cApiState st2), .int .i64 slot3] (.tup [.agg (cApiState r.1), .bool r.2.1, .int .i64 r.2.2]) [] := by
  refine con_of (T := TT0) tt_ok Try.func16 (c := _) (by unfold Try.f16; rfl) Try.ntmps16 (rs := [.cell 8 36, .tmp 9, .tmp 10]) (by rw [Try.results16]) (by unfold Try.f16; rfl) (by simp) ?_
  simp only [argsCh]
  dsimp only [rungeval_Scan] at h
  refine Wp.reg_seq (own := fun _ => false) tt_ok ?_
  iterate 5
    refine regv_pure (s1 := ?_) rfl rfl ?_ ?_ ?_
    rotate_left
    · simp []; rfl
    · first | (simp [] <;> omega) | skip
  refine regv_nil ?_
  refine Wp.reg_seq (own := fun _ => false) tt_ok ?_
  iterate 4
    refine regv_pure (s1 := ?_) rfl rfl ?_ ?_ ?_
    rotate_left
    · simp []; rfl
    · first | (simp [] <;> omega) | skip
  obtain ⟨⟨m, o, i⟩, e, h⟩ := obind h
  dsimp only at h
  refine regv_call2 (s' := ?_) (p := ?_) (con_rungeval_Contacts e) rfl rfl rfl rfl ?_ ?_ ?_ ?_ ?_ ?_
  rotate_left 2
  · simp []; rfl
  · first | exact .inl rfl | (refine .inl ?_; simp []; done) | (refine .inr ?_; dsimp only; repeat' first | exact All2.nil | refine All2.cons ?_ ?_ | exact AvLe.refl _ rfl | refine AvLe.aggs ?_) <;> first | exact AvLe.refl _ rfl | exact AvLe.nil _ | exact AvLe.znil _ | exact AvLe.list' (by first | (simp [] <;> omega)) (by simp []; done) | exact AvLe.eq (by simp []; done) rfl
  · first | (simp [] <;> omega) | skip
  · simp
  · simp []; rfl
  iterate 8
    refine regv_pure (s1 := ?_) rfl rfl ?_ ?_ ?_
    rotate_left
    · simp []; rfl
    · first | (simp [] <;> omega) | skip
  refine regv_nil ?_
  refine Wp.seq ?_
  refine Wp.reg_seq (own := fun _ => false) tt_ok ?_
  iterate 2
    refine regv_pure (s1 := ?_) rfl rfl ?_ ?_ ?_
    rotate_left
    · simp []; rfl
    · first | (simp [] <;> omega) | skip
  refine regv_nil ?_
  cases a : (i != 0)
  · rw [a, if_neg (by simp)] at h
    refine Wp.cond false (by first | (simp [a] <;> omega) | (have hq := a; simp at hq; simp [a, hq]; done)) (fun h0 => absurd h0 (by decide)) (fun _ => ?_)
    refine Wp.skip ?_
    show Wp _ _ _ _
    refine Wp.reg_seq (own := fun _ => false) tt_ok ?_
    iterate 2
      refine regv_pure (s1 := ?_) rfl rfl ?_ ?_ ?_
      rotate_left
      · simp [a]; rfl
      · first | (simp [a] <;> omega) | (have hq := a; simp at hq; simp [a, hq]; done) | skip
    obtain ⟨⟨q, j⟩, f, h⟩ := obind h
    dsimp only at h
    refine regv_call2 (s' := ?_) (p := ?_) (con_rungeval_Conducts f) rfl rfl rfl rfl ?_ ?_ ?_ ?_ ?_ ?_
    rotate_left 2
    · simp [a]; rfl
    · first | exact .inl rfl | (refine .inl ?_; simp [a]; done) | (refine .inr ?_; dsimp only; repeat' first | exact All2.nil | refine All2.cons ?_ ?_ | exact AvLe.refl _ rfl | refine AvLe.aggs ?_) <;> first | exact AvLe.refl _ rfl | exact AvLe.nil _ | exact AvLe.znil _ | exact AvLe.list' (by first | (simp [a] <;> omega)) (by simp [a]; done) | exact AvLe.eq (by simp [a]; done) rfl
    · first | (simp [a] <;> omega) | (have hq := a; simp at hq; simp [a, hq]; done) | skip
    · simp
    · simp [a]; rfl
    iterate 5
      refine regv_pure (s1 := ?_) rfl rfl ?_ ?_ ?_
      rotate_left
      · simp [a]; rfl
      · first | (simp [a] <;> omega) | (have hq := a; simp at hq; simp [a, hq]; done) | skip
    refine regv_nil ?_
    refine Wp.seq ?_
    refine Wp.reg_seq (own := fun _ => false) tt_ok ?_
    iterate 2
      refine regv_pure (s1 := ?_) rfl rfl ?_ ?_ ?_
      rotate_left
      · simp [a]; rfl
      · first | (simp [a] <;> omega) | (have hq := a; simp at hq; simp [a, hq]; done) | skip
    refine regv_nil ?_
    cases b : (j != 0)
    · rw [b, if_neg (by simp)] at h
      refine Wp.cond false (by first | (simp [a, b] <;> omega) | (have hq := b; simp at hq; simp [a, b, hq]; done)) (fun h0 => absurd h0 (by decide)) (fun _ => ?_)
      refine Wp.skip ?_
      show Wp _ _ _ _
      refine Wp.reg_seq (own := fun _ => false) tt_ok ?_
      iterate 3
        refine regv_pure (s1 := ?_) rfl rfl ?_ ?_ ?_
        rotate_left
        · simp [a, b]; rfl
        · first | (simp [a, b] <;> omega) | (have hq := b; simp at hq; simp [a, b, hq]; done) | skip
      obtain ⟨⟨u, k⟩, g, h⟩ := obind h
      dsimp only at h
      refine regv_call2 (s' := ?_) (p := ?_) (con_rungeval_Coils g) rfl rfl rfl rfl ?_ ?_ ?_ ?_ ?_ ?_
      rotate_left 2
      · simp [a, b]; rfl
      · first | exact .inl rfl | (refine .inl ?_; simp [a, b]; done) | (refine .inr ?_; dsimp only; repeat' first | exact All2.nil | refine All2.cons ?_ ?_ | exact AvLe.refl _ rfl | refine AvLe.aggs ?_) <;> first | exact AvLe.refl _ rfl | exact AvLe.nil _ | exact AvLe.znil _ | exact AvLe.list' (by first | (simp [a, b] <;> omega)) (by simp [a, b]; done) | exact AvLe.eq (by simp [a, b]; done) rfl
      · first | (simp [a, b] <;> omega) | (have hq := b; simp at hq; simp [a, b, hq]; done) | skip
      · simp
      · simp [a, b]; rfl
      iterate 6
        refine regv_pure (s1 := ?_) rfl rfl ?_ ?_ ?_
        rotate_left
        · simp [a, b]; rfl
        · first | (simp [a, b] <;> omega) | (have hq := b; simp at hq; simp [a, b, hq]; done) | skip
      refine regv_nil ?_
      refine Wp.seq ?_
      refine Wp.reg_seq (own := fun _ => false) tt_ok ?_
      iterate 2
        refine regv_pure (s1 := ?_) rfl rfl ?_ ?_ ?_
        rotate_left
        · simp [a, b]; rfl
        · first | (simp [a, b] <;> omega) | (have hq := b; simp at hq; simp [a, b, hq]; done) | skip
      refine regv_nil ?_
      cases d : (k != 0)
      · rw [d, if_neg (by simp)] at h
        refine Wp.cond false (by first | (simp [a, b, d] <;> omega) | (have hq := d; simp at hq; simp [a, b, d, hq]; done)) (fun h0 => absurd h0 (by decide)) (fun _ => ?_)
        refine Wp.skip ?_
        show Wp _ _ _ _
        refine Wp.reg_seq (own := fun _ => false) tt_ok ?_
        iterate 5
          refine regv_pure (s1 := ?_) rfl rfl ?_ ?_ ?_
          rotate_left
          · simp [a, b, d]; rfl
          · first | (simp [a, b, d] <;> omega) | (have hq := d; simp at hq; simp [a, b, d, hq]; done) | skip
        refine regv_nil ?_
        cases h
        refine Wp.ret (endQ_ret0 rfl ?_)
        repeat' first | exact All2.nil | refine All2.cons ?_ ?_ | refine AvLe.tups ?_ | refine AvLe.aggs ?_
        all_goals first
          | (exact AvLe.refl _ rfl)
          | (exact AvLe.nil _)
          | (exact AvLe.znil _)
          | (exact AvLe.ghost _ rfl)
          | (exact AvLe.zghost _ rfl)
          | (exact AvLe.sl' rfl (by simp [a, b, d]; done) (by simp [a, b, d]; done))
          | (exact AvLe.frz' rfl rfl rfl (by simp [a, b, d]; done) (by simp [a, b, d]; done) (by simp [a, b, d]; done))
          | (exact AvLe.list' (by simp [a, b, d]; done) (by simp [a, b, d]; done))
          | (exact AvLe.eq (by simp [a, b, d]; done) rfl)
      · rw [d, if_pos rfl] at h
        refine Wp.cond true (by first | (simp [a, b, d] <;> omega) | (have hq := d; simp at hq; simp [a, b, d, hq]; done)) (fun _ => ?_) (fun h0 => absurd h0 (by decide))
        refine Wp.reg_seq (own := fun _ => false) tt_ok ?_
        iterate 5
          refine regv_pure (s1 := ?_) rfl rfl ?_ ?_ ?_
          rotate_left
          · simp [a, b, d]; rfl
          · first | (simp [a, b, d] <;> omega) | (have hq := d; simp at hq; simp [a, b, d, hq]; done) | skip
        refine regv_nil ?_
        cases h
        refine Wp.ret (endQ_ret0 rfl ?_)
        repeat' first | exact All2.nil | refine All2.cons ?_ ?_ | refine AvLe.tups ?_ | refine AvLe.aggs ?_
        all_goals first
          | (exact AvLe.refl _ rfl)
          | (exact AvLe.nil _)
          | (exact AvLe.znil _)
          | (exact AvLe.ghost _ rfl)
          | (exact AvLe.zghost _ rfl)
          | (exact AvLe.sl' rfl (by simp [a, b, d]; done) (by simp [a, b, d]; done))
          | (exact AvLe.frz' rfl rfl rfl (by simp [a, b, d]; done) (by simp [a, b, d]; done) (by simp [a, b, d]; done))
          | (exact AvLe.list' (by simp [a, b, d]; done) (by simp [a, b, d]; done))
          | (exact AvLe.eq (by simp [a, b, d]; done) rfl)
    · rw [b, if_pos rfl] at h
      refine Wp.cond true (by first | (simp [a, b] <;> omega) | (have hq := b; simp at hq; simp [a, b, hq]; done)) (fun _ => ?_) (fun h0 => absurd h0 (by decide))
      refine Wp.reg_seq (own := fun _ => false) tt_ok ?_
      iterate 5
        refine regv_pure (s1 := ?_) rfl rfl ?_ ?_ ?_
        rotate_left
        · simp [a, b]; rfl
        · first | (simp [a, b] <;> omega) | (have hq := b; simp at hq; simp [a, b, hq]; done) | skip
      refine regv_nil ?_
      cases h
      refine Wp.ret (endQ_ret0 rfl ?_)
      repeat' first | exact All2.nil | refine All2.cons ?_ ?_ | refine AvLe.tups ?_ | refine AvLe.aggs ?_
      all_goals first
        | (exact AvLe.refl _ rfl)
        | (exact AvLe.nil _)
        | (exact AvLe.znil _)
        | (exact AvLe.ghost _ rfl)
        | (exact AvLe.zghost _ rfl)
        | (exact AvLe.sl' rfl (by simp [a, b]; done) (by simp [a, b]; done))
        | (exact AvLe.frz' rfl rfl rfl (by simp [a, b]; done) (by simp [a, b]; done) (by simp [a, b]; done))
        | (exact AvLe.list' (by simp [a, b]; done) (by simp [a, b]; done))
        | (exact AvLe.eq (by simp [a, b]; done) rfl)
  · rw [a, if_pos rfl] at h
    refine Wp.cond true (by first | (simp [a] <;> omega) | (have hq := a; simp at hq; simp [a, hq]; done)) (fun _ => ?_) (fun h0 => absurd h0 (by decide))
    refine Wp.reg_seq (own := fun _ => false) tt_ok ?_
    iterate 5
      refine regv_pure (s1 := ?_) rfl rfl ?_ ?_ ?_
      rotate_left
      · simp [a]; rfl
      · first | (simp [a] <;> omega) | (have hq := a; simp at hq; simp [a, hq]; done) | skip
    refine regv_nil ?_
    cases h
    refine Wp.ret (endQ_ret0 rfl ?_)
    repeat' first | exact All2.nil | refine All2.cons ?_ ?_ | refine AvLe.tups ?_ | refine AvLe.aggs ?_
    all_goals first
      | (exact AvLe.refl _ rfl)
      | (exact AvLe.nil _)
      | (exact AvLe.znil _)
      | (exact AvLe.ghost _ rfl)
      | (exact AvLe.zghost _ rfl)
      | (exact AvLe.sl' rfl (by simp [a]; done) (by simp [a]; done))
      | (exact AvLe.frz' rfl rfl rfl (by simp [a]; done) (by simp [a]; done) (by simp [a]; done))
      | (exact AvLe.list' (by simp [a]; done) (by simp [a]; done))
      | (exact AvLe.eq (by simp [a]; done) rfl)

theorem con_law16_alive {n : Nat} {r : Bool} (h : law16_alive n  = some r) : Con Try.prog 11 [] (.bool r) [] := by
  refine con_of (T := TT0) tt_ok Try.func11 (c := _) (by unfold Try.f11; rfl) Try.ntmps11 (rs := [.tmp 0]) (by rw [Try.results11]) (by unfold Try.f11; rfl) (by simp) ?_
  simp only [argsCh]
  dsimp only [law16_alive] at h
  refine Wp.reg_seq (own := fun _ => false) tt_ok ?_
  iterate 1
    refine regv_pure (s1 := ?_) rfl rfl ?_ ?_ ?_
    rotate_left
    · simp []; rfl
    · first | (simp [] <;> omega) | skip
  refine regv_nil ?_
  refine Wp.reg_seq (own := fun _ => false) tt_ok ?_
  iterate 2
    refine regv_pure (s1 := ?_) rfl rfl ?_ ?_ ?_
    rotate_left
    · simp []; rfl
    · first | (simp [] <;> omega) | skip
  obtain ⟨bw, aw, h⟩ := obind h
  have a := congrArg (List.map cApiContact) (Option.some.inj aw)
  have b := (congrArg List.length (Option.some.inj aw)).symm
  try simp [] at a
  try simp [] at b
  clear aw
  try simp only [a]
  iterate 3
    refine regv_pure (s1 := ?_) rfl rfl ?_ ?_ ?_
    rotate_left
    · simp [a, b]; rfl
    · first | (simp [a, b] <;> omega) | (have hq := b; simp at hq; simp [a, b, hq]; done) | skip
  obtain ⟨bz, ay, h⟩ := obind h
  have e := congrArg (List.map cApiCoil) (Option.some.inj ay)
  have d := (congrArg List.length (Option.some.inj ay)).symm
  try simp [a, b] at e
  try simp [a, b] at d
  clear ay
  try simp only [e]
  iterate 3
    refine regv_pure (s1 := ?_) rfl rfl ?_ ?_ ?_
    rotate_left
    · simp [a, b, e, d]; rfl
    · first | (simp [a, b, e, d] <;> omega) | (have hq := d; simp at hq; simp [a, b, e, d, hq]; done) | skip
  refine regv_nil ?_
  refine Wp.reg_seq (own := fun _ => false) tt_ok ?_
  iterate 2
    refine regv_pure (s1 := ?_) rfl rfl ?_ ?_ ?_
    rotate_left
    · simp [a, b, e, d]; rfl
    · first | (simp [a, b, e, d] <;> omega) | (have hq := d; simp at hq; simp [a, b, e, d, hq]; done) | skip
  obtain ⟨ca, az, h⟩ := obind h
  have f := congrArg (List.map cB) (Option.some.inj az)
  have g := (congrArg List.length (Option.some.inj az)).symm
  try simp [a, b, e, d] at f
  try simp [a, b, e, d] at g
  clear az
  try simp only [f]
  iterate 1
    refine regv_pure (s1 := ?_) rfl rfl ?_ ?_ ?_
    rotate_left
    · simp [a, b, e, d, f, g]; rfl
    · first | (simp [a, b, e, d, f, g] <;> omega) | (have hq := g; simp at hq; simp [a, b, e, d, f, g, hq]; done) | skip
  obtain ⟨cb, ba, h⟩ := obind h
  have i := congrArg (List.map cB) (Option.some.inj ba)
  have j := (congrArg List.length (Option.some.inj ba)).symm
  try simp [a, b, e, d, f, g] at i
  try simp [a, b, e, d, f, g] at j
  clear ba
  try simp only [i]
  iterate 1
    refine regv_pure (s1 := ?_) rfl rfl ?_ ?_ ?_
    rotate_left
    · simp [a, b, e, d, f, g, i, j]; rfl
    · first | (simp [a, b, e, d, f, g, i, j] <;> omega) | (have hq := j; simp at hq; simp [a, b, e, d, f, g, i, j, hq]; done) | skip
  obtain ⟨cc, bb, h⟩ := obind h
  have m := congrArg (List.map cB) (Option.some.inj bb)
  have k := (congrArg List.length (Option.some.inj bb)).symm
  try simp [a, b, e, d, f, g, i, j] at m
  try simp [a, b, e, d, f, g, i, j] at k
  clear bb
  try simp only [m]
  iterate 1
    refine regv_pure (s1 := ?_) rfl rfl ?_ ?_ ?_
    rotate_left
    · simp [a, b, e, d, f, g, i, j, m, k]; rfl
    · first | (simp [a, b, e, d, f, g, i, j, m, k] <;> omega) | (have hq := k; simp at hq; simp [a, b, e, d, f, g, i, j, m, k, hq]; done) | skip
  obtain ⟨⟨bd, bk, bm⟩, be, h⟩ := obind h
  dsimp only at h
  refine regv_call2 (s' := ?_) (p := ?_) (con_rungeval_Scan be) rfl rfl rfl rfl ?_ ?_ ?_ ?_ ?_ ?_
  rotate_left 2
  · simp [a, b, e, d, f, g, i, j, m, k]; rfl
  · first | exact .inl rfl | (refine .inl ?_; simp [a, b, e, d, f, g, i, j, m, k]; done) | (refine .inr ?_; dsimp only; repeat' first | exact All2.nil | refine All2.cons ?_ ?_ | exact AvLe.refl _ rfl | refine AvLe.aggs ?_) <;> first | exact AvLe.refl _ rfl | exact AvLe.nil _ | exact AvLe.znil _ | exact AvLe.list' (by first | (simp [a, b, e, d, f, g, i, j, m, k] <;> omega)) (by simp [a, b, e, d, f, g, i, j, m, k]; done) | exact AvLe.eq (by simp [a, b, e, d, f, g, i, j, m, k]; done) rfl
  · first | (simp [a, b, e, d, f, g, i, j, m, k] <;> omega) | (have hq := k; simp at hq; simp [a, b, e, d, f, g, i, j, m, k, hq]; done) | skip
  · simp
  · simp [a, b, e, d, f, g, i, j, m, k]; rfl
  iterate 8
    refine regv_pure (s1 := ?_) rfl rfl ?_ ?_ ?_
    rotate_left
    · simp [a, b, e, d, f, g, i, j, m, k]; rfl
    · first | (simp [a, b, e, d, f, g, i, j, m, k] <;> omega) | (have hq := k; simp at hq; simp [a, b, e, d, f, g, i, j, m, k, hq]; done) | skip
  refine regv_nil ?_
  refine Wp.reg_seq (own := fun _ => false) tt_ok ?_
  iterate 2
    refine regv_pure (s1 := ?_) rfl rfl ?_ ?_ ?_
    rotate_left
    · simp [a, b, e, d, f, g, i, j, m, k]; rfl
    · first | (simp [a, b, e, d, f, g, i, j, m, k] <;> omega) | (have hq := k; simp at hq; simp [a, b, e, d, f, g, i, j, m, k, hq]; done) | skip
  obtain ⟨cd, bc, h⟩ := obind h
  have q := congrArg (List.map cB) (Option.some.inj bc)
  have o := (congrArg List.length (Option.some.inj bc)).symm
  try simp [a, b, e, d, f, g, i, j, m, k] at q
  try simp [a, b, e, d, f, g, i, j, m, k] at o
  clear bc
  try simp only [q]
  iterate 1
    refine regv_pure (s1 := ?_) rfl rfl ?_ ?_ ?_
    rotate_left
    · simp [a, b, e, d, f, g, i, j, m, k, q, o]; rfl
    · first | (simp [a, b, e, d, f, g, i, j, m, k, q, o] <;> omega) | (have hq := o; simp at hq; simp [a, b, e, d, f, g, i, j, m, k, q, o, hq]; done) | skip
  obtain ⟨⟨bo, bp, bq⟩, bf, h⟩ := obind h
  dsimp only at h
  refine regv_call2 (s' := ?_) (p := ?_) (con_rungeval_Scan bf) rfl rfl rfl rfl ?_ ?_ ?_ ?_ ?_ ?_
  rotate_left 2
  · simp [a, b, e, d, f, g, i, j, m, k, q, o]; rfl
  · first | exact .inl rfl | (refine .inl ?_; simp [a, b, e, d, f, g, i, j, m, k, q, o]; done) | (refine .inr ?_; dsimp only; repeat' first | exact All2.nil | refine All2.cons ?_ ?_ | exact AvLe.refl _ rfl | refine AvLe.aggs ?_) <;> first | exact AvLe.refl _ rfl | exact AvLe.nil _ | exact AvLe.znil _ | exact AvLe.list' (by first | (simp [a, b, e, d, f, g, i, j, m, k, q, o] <;> omega)) (by simp [a, b, e, d, f, g, i, j, m, k, q, o]; done) | exact AvLe.eq (by simp [a, b, e, d, f, g, i, j, m, k, q, o]; done) rfl
  · first | (simp [a, b, e, d, f, g, i, j, m, k, q, o] <;> omega) | (have hq := o; simp at hq; simp [a, b, e, d, f, g, i, j, m, k, q, o, hq]; done) | skip
  · simp
  · simp [a, b, e, d, f, g, i, j, m, k, q, o]; rfl
  iterate 8
    refine regv_pure (s1 := ?_) rfl rfl ?_ ?_ ?_
    rotate_left
    · simp [a, b, e, d, f, g, i, j, m, k, q, o]; rfl
    · first | (simp [a, b, e, d, f, g, i, j, m, k, q, o] <;> omega) | (have hq := o; simp at hq; simp [a, b, e, d, f, g, i, j, m, k, q, o, hq]; done) | skip
  refine regv_nil ?_
  refine Wp.reg_seq (own := fun _ => false) tt_ok ?_
  iterate 3
    refine regv_pure (s1 := ?_) rfl rfl ?_ ?_ ?_
    rotate_left
    · simp [a, b, e, d, f, g, i, j, m, k, q, o]; rfl
    · first | (simp [a, b, e, d, f, g, i, j, m, k, q, o] <;> omega) | (have hq := o; simp at hq; simp [a, b, e, d, f, g, i, j, m, k, q, o, hq]; done) | skip
  cases u : (bm == 0)
  · rw [u, if_neg (by simp)] at h
    refine regv_skip (s1 := ?_) ?_ ?_ ?_
    rotate_left
    · simp [a, b, e, d, f, g, i, j, m, k, q, o, u]; done
    · simp [a, b, e, d, f, g, i, j, m, k, q, o, u]; rfl
    iterate 2
      refine regv_pure (s1 := ?_) rfl rfl ?_ ?_ ?_
      rotate_left
      · simp [a, b, e, d, f, g, i, j, m, k, q, o, u]; rfl
      · first | (simp [a, b, e, d, f, g, i, j, m, k, q, o, u] <;> omega) | (have hq := u; simp at hq; simp [a, b, e, d, f, g, i, j, m, k, q, o, u, hq]; done) | skip
    refine regv_skip (s1 := ?_) ?_ ?_ ?_
    rotate_left
    · simp [a, b, e, d, f, g, i, j, m, k, q, o, u]; done
    · simp [a, b, e, d, f, g, i, j, m, k, q, o, u]; rfl
    refine regv_skip (s1 := ?_) ?_ ?_ ?_
    rotate_left
    · simp [a, b, e, d, f, g, i, j, m, k, q, o, u]; done
    · simp [a, b, e, d, f, g, i, j, m, k, q, o, u]; rfl
    refine regv_skip (s1 := ?_) ?_ ?_ ?_
    rotate_left
    · simp [a, b, e, d, f, g, i, j, m, k, q, o, u]; done
    · simp [a, b, e, d, f, g, i, j, m, k, q, o, u]; rfl
    refine regv_skip (s1 := ?_) ?_ ?_ ?_
    rotate_left
    · simp [a, b, e, d, f, g, i, j, m, k, q, o, u]; done
    · simp [a, b, e, d, f, g, i, j, m, k, q, o, u]; rfl
    iterate 2
      refine regv_pure (s1 := ?_) rfl rfl ?_ ?_ ?_
      rotate_left
      · simp [a, b, e, d, f, g, i, j, m, k, q, o, u]; rfl
      · first | (simp [a, b, e, d, f, g, i, j, m, k, q, o, u] <;> omega) | (have hq := u; simp at hq; simp [a, b, e, d, f, g, i, j, m, k, q, o, u, hq]; done) | skip
    refine regv_skip (s1 := ?_) ?_ ?_ ?_
    rotate_left
    · simp [a, b, e, d, f, g, i, j, m, k, q, o, u]; done
    · simp [a, b, e, d, f, g, i, j, m, k, q, o, u]; rfl
    refine regv_skip (s1 := ?_) ?_ ?_ ?_
    rotate_left
    · simp [a, b, e, d, f, g, i, j, m, k, q, o, u]; done
    · simp [a, b, e, d, f, g, i, j, m, k, q, o, u]; rfl
    refine regv_skip (s1 := ?_) ?_ ?_ ?_
    rotate_left
    · simp [a, b, e, d, f, g, i, j, m, k, q, o, u]; done
    · simp [a, b, e, d, f, g, i, j, m, k, q, o, u]; rfl
    refine regv_skip (s1 := ?_) ?_ ?_ ?_
    rotate_left
    · simp [a, b, e, d, f, g, i, j, m, k, q, o, u]; done
    · simp [a, b, e, d, f, g, i, j, m, k, q, o, u]; rfl
    iterate 2
      refine regv_pure (s1 := ?_) rfl rfl ?_ ?_ ?_
      rotate_left
      · simp [a, b, e, d, f, g, i, j, m, k, q, o, u]; rfl
      · first | (simp [a, b, e, d, f, g, i, j, m, k, q, o, u] <;> omega) | (have hq := u; simp at hq; simp [a, b, e, d, f, g, i, j, m, k, q, o, u, hq]; done) | skip
    refine regv_skip (s1 := ?_) ?_ ?_ ?_
    rotate_left
    · simp [a, b, e, d, f, g, i, j, m, k, q, o, u]; done
    · simp [a, b, e, d, f, g, i, j, m, k, q, o, u]; rfl
    refine regv_skip (s1 := ?_) ?_ ?_ ?_
    rotate_left
    · simp [a, b, e, d, f, g, i, j, m, k, q, o, u]; done
    · simp [a, b, e, d, f, g, i, j, m, k, q, o, u]; rfl
    refine regv_skip (s1 := ?_) ?_ ?_ ?_
    rotate_left
    · simp [a, b, e, d, f, g, i, j, m, k, q, o, u]; done
    · simp [a, b, e, d, f, g, i, j, m, k, q, o, u]; rfl
    refine regv_skip (s1 := ?_) ?_ ?_ ?_
    rotate_left
    · simp [a, b, e, d, f, g, i, j, m, k, q, o, u]; done
    · simp [a, b, e, d, f, g, i, j, m, k, q, o, u]; rfl
    iterate 2
      refine regv_pure (s1 := ?_) rfl rfl ?_ ?_ ?_
      rotate_left
      · simp [a, b, e, d, f, g, i, j, m, k, q, o, u]; rfl
      · first | (simp [a, b, e, d, f, g, i, j, m, k, q, o, u] <;> omega) | (have hq := u; simp at hq; simp [a, b, e, d, f, g, i, j, m, k, q, o, u, hq]; done) | skip
    refine regv_skip (s1 := ?_) ?_ ?_ ?_
    rotate_left
    · simp [a, b, e, d, f, g, i, j, m, k, q, o, u]; done
    · simp [a, b, e, d, f, g, i, j, m, k, q, o, u]; rfl
    refine regv_skip (s1 := ?_) ?_ ?_ ?_
    rotate_left
    · simp [a, b, e, d, f, g, i, j, m, k, q, o, u]; done
    · simp [a, b, e, d, f, g, i, j, m, k, q, o, u]; rfl
    refine regv_skip (s1 := ?_) ?_ ?_ ?_
    rotate_left
    · simp [a, b, e, d, f, g, i, j, m, k, q, o, u]; done
    · simp [a, b, e, d, f, g, i, j, m, k, q, o, u]; rfl
    refine regv_skip (s1 := ?_) ?_ ?_ ?_
    rotate_left
    · simp [a, b, e, d, f, g, i, j, m, k, q, o, u]; done
    · simp [a, b, e, d, f, g, i, j, m, k, q, o, u]; rfl
    iterate 2
      refine regv_pure (s1 := ?_) rfl rfl ?_ ?_ ?_
      rotate_left
      · simp [a, b, e, d, f, g, i, j, m, k, q, o, u]; rfl
      · first | (simp [a, b, e, d, f, g, i, j, m, k, q, o, u] <;> omega) | (have hq := u; simp at hq; simp [a, b, e, d, f, g, i, j, m, k, q, o, u, hq]; done) | skip
    refine regv_skip (s1 := ?_) ?_ ?_ ?_
    rotate_left
    · simp [a, b, e, d, f, g, i, j, m, k, q, o, u]; done
    · simp [a, b, e, d, f, g, i, j, m, k, q, o, u]; rfl
    refine regv_skip (s1 := ?_) ?_ ?_ ?_
    rotate_left
    · simp [a, b, e, d, f, g, i, j, m, k, q, o, u]; done
    · simp [a, b, e, d, f, g, i, j, m, k, q, o, u]; rfl
    iterate 2
      refine regv_pure (s1 := ?_) rfl rfl ?_ ?_ ?_
      rotate_left
      · simp [a, b, e, d, f, g, i, j, m, k, q, o, u]; rfl
      · first | (simp [a, b, e, d, f, g, i, j, m, k, q, o, u] <;> omega) | (have hq := u; simp at hq; simp [a, b, e, d, f, g, i, j, m, k, q, o, u, hq]; done) | skip
    refine regv_skip (s1 := ?_) ?_ ?_ ?_
    rotate_left
    · simp [a, b, e, d, f, g, i, j, m, k, q, o, u]; done
    · simp [a, b, e, d, f, g, i, j, m, k, q, o, u]; rfl
    refine regv_skip (s1 := ?_) ?_ ?_ ?_
    rotate_left
    · simp [a, b, e, d, f, g, i, j, m, k, q, o, u]; done
    · simp [a, b, e, d, f, g, i, j, m, k, q, o, u]; rfl
    iterate 2
      refine regv_pure (s1 := ?_) rfl rfl ?_ ?_ ?_
      rotate_left
      · simp [a, b, e, d, f, g, i, j, m, k, q, o, u]; rfl
      · first | (simp [a, b, e, d, f, g, i, j, m, k, q, o, u] <;> omega) | (have hq := u; simp at hq; simp [a, b, e, d, f, g, i, j, m, k, q, o, u, hq]; done) | skip
    refine regv_skip (s1 := ?_) ?_ ?_ ?_
    rotate_left
    · simp [a, b, e, d, f, g, i, j, m, k, q, o, u]; done
    · simp [a, b, e, d, f, g, i, j, m, k, q, o, u]; rfl
    refine regv_skip (s1 := ?_) ?_ ?_ ?_
    rotate_left
    · simp [a, b, e, d, f, g, i, j, m, k, q, o, u]; done
    · simp [a, b, e, d, f, g, i, j, m, k, q, o, u]; rfl
    refine regv_skip (s1 := ?_) ?_ ?_ ?_
    rotate_left
    · simp [a, b, e, d, f, g, i, j, m, k, q, o, u]; done
    · simp [a, b, e, d, f, g, i, j, m, k, q, o, u]; rfl
    refine regv_skip (s1 := ?_) ?_ ?_ ?_
    rotate_left
    · simp [a, b, e, d, f, g, i, j, m, k, q, o, u]; done
    · simp [a, b, e, d, f, g, i, j, m, k, q, o, u]; rfl
    iterate 2
      refine regv_pure (s1 := ?_) rfl rfl ?_ ?_ ?_
      rotate_left
      · simp [a, b, e, d, f, g, i, j, m, k, q, o, u]; rfl
      · first | (simp [a, b, e, d, f, g, i, j, m, k, q, o, u] <;> omega) | (have hq := u; simp at hq; simp [a, b, e, d, f, g, i, j, m, k, q, o, u, hq]; done) | skip
    refine regv_skip (s1 := ?_) ?_ ?_ ?_
    rotate_left
    · simp [a, b, e, d, f, g, i, j, m, k, q, o, u]; done
    · simp [a, b, e, d, f, g, i, j, m, k, q, o, u]; rfl
    refine regv_skip (s1 := ?_) ?_ ?_ ?_
    rotate_left
    · simp [a, b, e, d, f, g, i, j, m, k, q, o, u]; done
    · simp [a, b, e, d, f, g, i, j, m, k, q, o, u]; rfl
    refine regv_skip (s1 := ?_) ?_ ?_ ?_
    rotate_left
    · simp [a, b, e, d, f, g, i, j, m, k, q, o, u]; done
    · simp [a, b, e, d, f, g, i, j, m, k, q, o, u]; rfl
    refine regv_skip (s1 := ?_) ?_ ?_ ?_
    rotate_left
    · simp [a, b, e, d, f, g, i, j, m, k, q, o, u]; done
    · simp [a, b, e, d, f, g, i, j, m, k, q, o, u]; rfl
    refine regv_skip (s1 := ?_) ?_ ?_ ?_
    rotate_left
    · simp [a, b, e, d, f, g, i, j, m, k, q, o, u]; done
    · simp [a, b, e, d, f, g, i, j, m, k, q, o, u]; rfl
    iterate 2
      refine regv_pure (s1 := ?_) rfl rfl ?_ ?_ ?_
      rotate_left
      · simp [a, b, e, d, f, g, i, j, m, k, q, o, u]; rfl
      · first | (simp [a, b, e, d, f, g, i, j, m, k, q, o, u] <;> omega) | (have hq := u; simp at hq; simp [a, b, e, d, f, g, i, j, m, k, q, o, u, hq]; done) | skip
    refine regv_nil ?_
    cases h
    refine Wp.ret (endQ_ret0 rfl ?_)
    repeat' first | exact All2.nil | refine All2.cons ?_ ?_ | refine AvLe.tups ?_ | refine AvLe.aggs ?_
    all_goals first
      | (exact AvLe.refl _ rfl)
      | (exact AvLe.nil _)
      | (exact AvLe.znil _)
      | (exact AvLe.ghost _ rfl)
      | (exact AvLe.zghost _ rfl)
      | (exact AvLe.sl' rfl (by simp [a, b, e, d, f, g, i, j, m, k, q, o, u]; done) (by simp [a, b, e, d, f, g, i, j, m, k, q, o, u]; done))
      | (exact AvLe.frz' rfl rfl rfl (by simp [a, b, e, d, f, g, i, j, m, k, q, o, u]; done) (by simp [a, b, e, d, f, g, i, j, m, k, q, o, u]; done) (by simp [a, b, e, d, f, g, i, j, m, k, q, o, u]; done))
      | (exact AvLe.list' (by simp [a, b, e, d, f, g, i, j, m, k, q, o, u]; done) (by simp [a, b, e, d, f, g, i, j, m, k, q, o, u]; done))
      | (exact AvLe.eq (by simp [a, b, e, d, f, g, i, j, m, k, q, o, u]; done) rfl)
  · rw [u, if_pos rfl] at h
    refine regv_pure (s1 := ?_) rfl ?_ ?_ ?_ ?_
    rotate_left
    · simp [a, b, e, d, f, g, i, j, m, k, q, o, u]; done
    · simp [a, b, e, d, f, g, i, j, m, k, q, o, u]; rfl
    · first | (simp [a, b, e, d, f, g, i, j, m, k, q, o, u] <;> omega) | (have hq := u; simp at hq; simp [a, b, e, d, f, g, i, j, m, k, q, o, u, hq]; done) | skip
    iterate 2
      refine regv_pure (s1 := ?_) rfl rfl ?_ ?_ ?_
      rotate_left
      · simp [a, b, e, d, f, g, i, j, m, k, q, o, u]; rfl
      · first | (simp [a, b, e, d, f, g, i, j, m, k, q, o, u] <;> omega) | (have hq := u; simp at hq; simp [a, b, e, d, f, g, i, j, m, k, q, o, u, hq]; done) | skip
    refine (Bool.eq_false_or_eq_true bk).symm.elim (fun v => ?_) (fun v => ?_)
    · rw [if_neg (by rw [v]; simp)] at h
      refine regv_skip (s1 := ?_) ?_ ?_ ?_
      rotate_left
      · simp [a, b, e, d, f, g, i, j, m, k, q, o, u, v]; done
      · simp [a, b, e, d, f, g, i, j, m, k, q, o, u, v]; rfl
      refine regv_skip (s1 := ?_) ?_ ?_ ?_
      rotate_left
      · simp [a, b, e, d, f, g, i, j, m, k, q, o, u, v]; done
      · simp [a, b, e, d, f, g, i, j, m, k, q, o, u, v]; rfl
      refine regv_skip (s1 := ?_) ?_ ?_ ?_
      rotate_left
      · simp [a, b, e, d, f, g, i, j, m, k, q, o, u, v]; done
      · simp [a, b, e, d, f, g, i, j, m, k, q, o, u, v]; rfl
      refine regv_skip (s1 := ?_) ?_ ?_ ?_
      rotate_left
      · simp [a, b, e, d, f, g, i, j, m, k, q, o, u, v]; done
      · simp [a, b, e, d, f, g, i, j, m, k, q, o, u, v]; rfl
      iterate 2
        refine regv_pure (s1 := ?_) rfl rfl ?_ ?_ ?_
        rotate_left
        · simp [a, b, e, d, f, g, i, j, m, k, q, o, u, v]; rfl
        · first | (simp [a, b, e, d, f, g, i, j, m, k, q, o, u, v] <;> omega) | (have hq := v; simp at hq; simp [a, b, e, d, f, g, i, j, m, k, q, o, u, v, hq]; done) | skip
      refine regv_skip (s1 := ?_) ?_ ?_ ?_
      rotate_left
      · simp [a, b, e, d, f, g, i, j, m, k, q, o, u, v]; done
      · simp [a, b, e, d, f, g, i, j, m, k, q, o, u, v]; rfl
      refine regv_skip (s1 := ?_) ?_ ?_ ?_
      rotate_left
      · simp [a, b, e, d, f, g, i, j, m, k, q, o, u, v]; done
      · simp [a, b, e, d, f, g, i, j, m, k, q, o, u, v]; rfl
      refine regv_skip (s1 := ?_) ?_ ?_ ?_
      rotate_left
      · simp [a, b, e, d, f, g, i, j, m, k, q, o, u, v]; done
      · simp [a, b, e, d, f, g, i, j, m, k, q, o, u, v]; rfl
      refine regv_skip (s1 := ?_) ?_ ?_ ?_
      rotate_left
      · simp [a, b, e, d, f, g, i, j, m, k, q, o, u, v]; done
      · simp [a, b, e, d, f, g, i, j, m, k, q, o, u, v]; rfl
      iterate 2
        refine regv_pure (s1 := ?_) rfl rfl ?_ ?_ ?_
        rotate_left
        · simp [a, b, e, d, f, g, i, j, m, k, q, o, u, v]; rfl
        · first | (simp [a, b, e, d, f, g, i, j, m, k, q, o, u, v] <;> omega) | (have hq := v; simp at hq; simp [a, b, e, d, f, g, i, j, m, k, q, o, u, v, hq]; done) | skip
      refine regv_skip (s1 := ?_) ?_ ?_ ?_
      rotate_left
      · simp [a, b, e, d, f, g, i, j, m, k, q, o, u, v]; done
      · simp [a, b, e, d, f, g, i, j, m, k, q, o, u, v]; rfl
      refine regv_skip (s1 := ?_) ?_ ?_ ?_
      rotate_left
      · simp [a, b, e, d, f, g, i, j, m, k, q, o, u, v]; done
      · simp [a, b, e, d, f, g, i, j, m, k, q, o, u, v]; rfl
      refine regv_skip (s1 := ?_) ?_ ?_ ?_
      rotate_left
      · simp [a, b, e, d, f, g, i, j, m, k, q, o, u, v]; done
      · simp [a, b, e, d, f, g, i, j, m, k, q, o, u, v]; rfl
      refine regv_skip (s1 := ?_) ?_ ?_ ?_
      rotate_left
      · simp [a, b, e, d, f, g, i, j, m, k, q, o, u, v]; done
      · simp [a, b, e, d, f, g, i, j, m, k, q, o, u, v]; rfl
      iterate 2
        refine regv_pure (s1 := ?_) rfl rfl ?_ ?_ ?_
        rotate_left
        · simp [a, b, e, d, f, g, i, j, m, k, q, o, u, v]; rfl
        · first | (simp [a, b, e, d, f, g, i, j, m, k, q, o, u, v] <;> omega) | (have hq := v; simp at hq; simp [a, b, e, d, f, g, i, j, m, k, q, o, u, v, hq]; done) | skip
      refine regv_skip (s1 := ?_) ?_ ?_ ?_
      rotate_left
      · simp [a, b, e, d, f, g, i, j, m, k, q, o, u, v]; done
      · simp [a, b, e, d, f, g, i, j, m, k, q, o, u, v]; rfl
      refine regv_skip (s1 := ?_) ?_ ?_ ?_
      rotate_left
      · simp [a, b, e, d, f, g, i, j, m, k, q, o, u, v]; done
      · simp [a, b, e, d, f, g, i, j, m, k, q, o, u, v]; rfl
      refine regv_skip (s1 := ?_) ?_ ?_ ?_
      rotate_left
      · simp [a, b, e, d, f, g, i, j, m, k, q, o, u, v]; done
      · simp [a, b, e, d, f, g, i, j, m, k, q, o, u, v]; rfl
      refine regv_skip (s1 := ?_) ?_ ?_ ?_
      rotate_left
      · simp [a, b, e, d, f, g, i, j, m, k, q, o, u, v]; done
      · simp [a, b, e, d, f, g, i, j, m, k, q, o, u, v]; rfl
      iterate 2
        refine regv_pure (s1 := ?_) rfl rfl ?_ ?_ ?_
        rotate_left
        · simp [a, b, e, d, f, g, i, j, m, k, q, o, u, v]; rfl
        · first | (simp [a, b, e, d, f, g, i, j, m, k, q, o, u, v] <;> omega) | (have hq := v; simp at hq; simp [a, b, e, d, f, g, i, j, m, k, q, o, u, v, hq]; done) | skip
      refine regv_skip (s1 := ?_) ?_ ?_ ?_
      rotate_left
      · simp [a, b, e, d, f, g, i, j, m, k, q, o, u, v]; done
      · simp [a, b, e, d, f, g, i, j, m, k, q, o, u, v]; rfl
      refine regv_skip (s1 := ?_) ?_ ?_ ?_
      rotate_left
      · simp [a, b, e, d, f, g, i, j, m, k, q, o, u, v]; done
      · simp [a, b, e, d, f, g, i, j, m, k, q, o, u, v]; rfl
      iterate 2
        refine regv_pure (s1 := ?_) rfl rfl ?_ ?_ ?_
        rotate_left
        · simp [a, b, e, d, f, g, i, j, m, k, q, o, u, v]; rfl
        · first | (simp [a, b, e, d, f, g, i, j, m, k, q, o, u, v] <;> omega) | (have hq := v; simp at hq; simp [a, b, e, d, f, g, i, j, m, k, q, o, u, v, hq]; done) | skip
      refine regv_skip (s1 := ?_) ?_ ?_ ?_
      rotate_left
      · simp [a, b, e, d, f, g, i, j, m, k, q, o, u, v]; done
      · simp [a, b, e, d, f, g, i, j, m, k, q, o, u, v]; rfl
      refine regv_skip (s1 := ?_) ?_ ?_ ?_
      rotate_left
      · simp [a, b, e, d, f, g, i, j, m, k, q, o, u, v]; done
      · simp [a, b, e, d, f, g, i, j, m, k, q, o, u, v]; rfl
      iterate 2
        refine regv_pure (s1 := ?_) rfl rfl ?_ ?_ ?_
        rotate_left
        · simp [a, b, e, d, f, g, i, j, m, k, q, o, u, v]; rfl
        · first | (simp [a, b, e, d, f, g, i, j, m, k, q, o, u, v] <;> omega) | (have hq := v; simp at hq; simp [a, b, e, d, f, g, i, j, m, k, q, o, u, v, hq]; done) | skip
      refine regv_skip (s1 := ?_) ?_ ?_ ?_
      rotate_left
      · simp [a, b, e, d, f, g, i, j, m, k, q, o, u, v]; done
      · simp [a, b, e, d, f, g, i, j, m, k, q, o, u, v]; rfl
      refine regv_skip (s1 := ?_) ?_ ?_ ?_
      rotate_left
      · simp [a, b, e, d, f, g, i, j, m, k, q, o, u, v]; done
      · simp [a, b, e, d, f, g, i, j, m, k, q, o, u, v]; rfl
      refine regv_skip (s1 := ?_) ?_ ?_ ?_
      rotate_left
      · simp [a, b, e, d, f, g, i, j, m, k, q, o, u, v]; done
      · simp [a, b, e, d, f, g, i, j, m, k, q, o, u, v]; rfl
      refine regv_skip (s1 := ?_) ?_ ?_ ?_
      rotate_left
      · simp [a, b, e, d, f, g, i, j, m, k, q, o, u, v]; done
      · simp [a, b, e, d, f, g, i, j, m, k, q, o, u, v]; rfl
      iterate 2
        refine regv_pure (s1 := ?_) rfl rfl ?_ ?_ ?_
        rotate_left
        · simp [a, b, e, d, f, g, i, j, m, k, q, o, u, v]; rfl
        · first | (simp [a, b, e, d, f, g, i, j, m, k, q, o, u, v] <;> omega) | (have hq := v; simp at hq; simp [a, b, e, d, f, g, i, j, m, k, q, o, u, v, hq]; done) | skip
      refine regv_skip (s1 := ?_) ?_ ?_ ?_
      rotate_left
      · simp [a, b, e, d, f, g, i, j, m, k, q, o, u, v]; done
      · simp [a, b, e, d, f, g, i, j, m, k, q, o, u, v]; rfl
      refine regv_skip (s1 := ?_) ?_ ?_ ?_
      rotate_left
      · simp [a, b, e, d, f, g, i, j, m, k, q, o, u, v]; done
      · simp [a, b, e, d, f, g, i, j, m, k, q, o, u, v]; rfl
      refine regv_skip (s1 := ?_) ?_ ?_ ?_
      rotate_left
      · simp [a, b, e, d, f, g, i, j, m, k, q, o, u, v]; done
      · simp [a, b, e, d, f, g, i, j, m, k, q, o, u, v]; rfl
      refine regv_skip (s1 := ?_) ?_ ?_ ?_
      rotate_left
      · simp [a, b, e, d, f, g, i, j, m, k, q, o, u, v]; done
      · simp [a, b, e, d, f, g, i, j, m, k, q, o, u, v]; rfl
      refine regv_skip (s1 := ?_) ?_ ?_ ?_
      rotate_left
      · simp [a, b, e, d, f, g, i, j, m, k, q, o, u, v]; done
      · simp [a, b, e, d, f, g, i, j, m, k, q, o, u, v]; rfl
      iterate 2
        refine regv_pure (s1 := ?_) rfl rfl ?_ ?_ ?_
        rotate_left
        · simp [a, b, e, d, f, g, i, j, m, k, q, o, u, v]; rfl
        · first | (simp [a, b, e, d, f, g, i, j, m, k, q, o, u, v] <;> omega) | (have hq := v; simp at hq; simp [a, b, e, d, f, g, i, j, m, k, q, o, u, v, hq]; done) | skip
      refine regv_nil ?_
      cases h
      refine Wp.ret (endQ_ret0 rfl ?_)
      repeat' first | exact All2.nil | refine All2.cons ?_ ?_ | refine AvLe.tups ?_ | refine AvLe.aggs ?_
      all_goals first
        | (exact AvLe.refl _ rfl)
        | (exact AvLe.nil _)
        | (exact AvLe.znil _)
        | (exact AvLe.ghost _ rfl)
        | (exact AvLe.zghost _ rfl)
        | (exact AvLe.sl' rfl (by simp [a, b, e, d, f, g, i, j, m, k, q, o, u, v]; done) (by simp [a, b, e, d, f, g, i, j, m, k, q, o, u, v]; done))
        | (exact AvLe.frz' rfl rfl rfl (by simp [a, b, e, d, f, g, i, j, m, k, q, o, u, v]; done) (by simp [a, b, e, d, f, g, i, j, m, k, q, o, u, v]; done) (by simp [a, b, e, d, f, g, i, j, m, k, q, o, u, v]; done))
        | (exact AvLe.list' (by simp [a, b, e, d, f, g, i, j, m, k, q, o, u, v]; done) (by simp [a, b, e, d, f, g, i, j, m, k, q, o, u, v]; done))
        | (exact AvLe.eq (by simp [a, b, e, d, f, g, i, j, m, k, q, o, u, v]; done) rfl)
    · rw [if_pos v] at h
      refine regv_pure (s1 := ?_) rfl ?_ ?_ ?_ ?_
      rotate_left
      · simp [a, b, e, d, f, g, i, j, m, k, q, o, u, v]; done
      · simp [a, b, e, d, f, g, i, j, m, k, q, o, u, v]; rfl
      · first | (simp [a, b, e, d, f, g, i, j, m, k, q, o, u, v] <;> omega) | (have hq := v; simp at hq; simp [a, b, e, d, f, g, i, j, m, k, q, o, u, v, hq]; done) | skip
      refine regv_pure (s1 := ?_) rfl ?_ ?_ ?_ ?_
      rotate_left
      · simp [a, b, e, d, f, g, i, j, m, k, q, o, u, v]; done
      · simp [a, b, e, d, f, g, i, j, m, k, q, o, u, v]; rfl
      · first | (simp [a, b, e, d, f, g, i, j, m, k, q, o, u, v] <;> omega) | (have hq := v; simp at hq; simp [a, b, e, d, f, g, i, j, m, k, q, o, u, v, hq]; done) | skip
      refine regv_pure (s1 := ?_) rfl ?_ ?_ ?_ ?_
      rotate_left
      · simp [a, b, e, d, f, g, i, j, m, k, q, o, u, v]; done
      · simp [a, b, e, d, f, g, i, j, m, k, q, o, u, v]; rfl
      · first | (simp [a, b, e, d, f, g, i, j, m, k, q, o, u, v] <;> omega) | (have hq := v; simp at hq; simp [a, b, e, d, f, g, i, j, m, k, q, o, u, v, hq]; done) | skip
      refine regv_pure (s1 := ?_) rfl ?_ ?_ ?_ ?_
      rotate_left
      · simp [a, b, e, d, f, g, i, j, m, k, q, o, u, v]; done
      · simp [a, b, e, d, f, g, i, j, m, k, q, o, u, v]; rfl
      · first | (simp [a, b, e, d, f, g, i, j, m, k, q, o, u, v] <;> omega) | (have hq := v; simp at hq; simp [a, b, e, d, f, g, i, j, m, k, q, o, u, v, hq]; done) | skip
      iterate 2
        refine regv_pure (s1 := ?_) rfl rfl ?_ ?_ ?_
        rotate_left
        · simp [a, b, e, d, f, g, i, j, m, k, q, o, u, v]; rfl
        · first | (simp [a, b, e, d, f, g, i, j, m, k, q, o, u, v] <;> omega) | (have hq := v; simp at hq; simp [a, b, e, d, f, g, i, j, m, k, q, o, u, v, hq]; done) | skip
      cases w : ((bd.Q.length : Int) == 1)
      · rw [w, if_neg (by simp)] at h
        refine regv_skip (s1 := ?_) ?_ ?_ ?_
        rotate_left
        · simp [a, b, e, d, f, g, i, j, m, k, q, o, u, v, w]; done
        · simp [a, b, e, d, f, g, i, j, m, k, q, o, u, v, w]; rfl
        refine regv_skip (s1 := ?_) ?_ ?_ ?_
        rotate_left
        · simp [a, b, e, d, f, g, i, j, m, k, q, o, u, v, w]; done
        · simp [a, b, e, d, f, g, i, j, m, k, q, o, u, v, w]; rfl
        refine regv_skip (s1 := ?_) ?_ ?_ ?_
        rotate_left
        · simp [a, b, e, d, f, g, i, j, m, k, q, o, u, v, w]; done
        · simp [a, b, e, d, f, g, i, j, m, k, q, o, u, v, w]; rfl
        refine regv_skip (s1 := ?_) ?_ ?_ ?_
        rotate_left
        · simp [a, b, e, d, f, g, i, j, m, k, q, o, u, v, w]; done
        · simp [a, b, e, d, f, g, i, j, m, k, q, o, u, v, w]; rfl
        iterate 2
          refine regv_pure (s1 := ?_) rfl rfl ?_ ?_ ?_
          rotate_left
          · simp [a, b, e, d, f, g, i, j, m, k, q, o, u, v, w]; rfl
          · first | (simp [a, b, e, d, f, g, i, j, m, k, q, o, u, v, w] <;> omega) | (have hq := w; simp at hq; simp [a, b, e, d, f, g, i, j, m, k, q, o, u, v, w, hq]; done) | skip
        refine regv_skip (s1 := ?_) ?_ ?_ ?_
        rotate_left
        · simp [a, b, e, d, f, g, i, j, m, k, q, o, u, v, w]; done
        · simp [a, b, e, d, f, g, i, j, m, k, q, o, u, v, w]; rfl
        refine regv_skip (s1 := ?_) ?_ ?_ ?_
        rotate_left
        · simp [a, b, e, d, f, g, i, j, m, k, q, o, u, v, w]; done
        · simp [a, b, e, d, f, g, i, j, m, k, q, o, u, v, w]; rfl
        refine regv_skip (s1 := ?_) ?_ ?_ ?_
        rotate_left
        · simp [a, b, e, d, f, g, i, j, m, k, q, o, u, v, w]; done
        · simp [a, b, e, d, f, g, i, j, m, k, q, o, u, v, w]; rfl
        refine regv_skip (s1 := ?_) ?_ ?_ ?_
        rotate_left
        · simp [a, b, e, d, f, g, i, j, m, k, q, o, u, v, w]; done
        · simp [a, b, e, d, f, g, i, j, m, k, q, o, u, v, w]; rfl
        iterate 2
          refine regv_pure (s1 := ?_) rfl rfl ?_ ?_ ?_
          rotate_left
          · simp [a, b, e, d, f, g, i, j, m, k, q, o, u, v, w]; rfl
          · first | (simp [a, b, e, d, f, g, i, j, m, k, q, o, u, v, w] <;> omega) | (have hq := w; simp at hq; simp [a, b, e, d, f, g, i, j, m, k, q, o, u, v, w, hq]; done) | skip
        refine regv_skip (s1 := ?_) ?_ ?_ ?_
        rotate_left
        · simp [a, b, e, d, f, g, i, j, m, k, q, o, u, v, w]; done
        · simp [a, b, e, d, f, g, i, j, m, k, q, o, u, v, w]; rfl
        refine regv_skip (s1 := ?_) ?_ ?_ ?_
        rotate_left
        · simp [a, b, e, d, f, g, i, j, m, k, q, o, u, v, w]; done
        · simp [a, b, e, d, f, g, i, j, m, k, q, o, u, v, w]; rfl
        refine regv_skip (s1 := ?_) ?_ ?_ ?_
        rotate_left
        · simp [a, b, e, d, f, g, i, j, m, k, q, o, u, v, w]; done
        · simp [a, b, e, d, f, g, i, j, m, k, q, o, u, v, w]; rfl
        refine regv_skip (s1 := ?_) ?_ ?_ ?_
        rotate_left
        · simp [a, b, e, d, f, g, i, j, m, k, q, o, u, v, w]; done
        · simp [a, b, e, d, f, g, i, j, m, k, q, o, u, v, w]; rfl
        iterate 2
          refine regv_pure (s1 := ?_) rfl rfl ?_ ?_ ?_
          rotate_left
          · simp [a, b, e, d, f, g, i, j, m, k, q, o, u, v, w]; rfl
          · first | (simp [a, b, e, d, f, g, i, j, m, k, q, o, u, v, w] <;> omega) | (have hq := w; simp at hq; simp [a, b, e, d, f, g, i, j, m, k, q, o, u, v, w, hq]; done) | skip
        refine regv_skip (s1 := ?_) ?_ ?_ ?_
        rotate_left
        · simp [a, b, e, d, f, g, i, j, m, k, q, o, u, v, w]; done
        · simp [a, b, e, d, f, g, i, j, m, k, q, o, u, v, w]; rfl
        refine regv_skip (s1 := ?_) ?_ ?_ ?_
        rotate_left
        · simp [a, b, e, d, f, g, i, j, m, k, q, o, u, v, w]; done
        · simp [a, b, e, d, f, g, i, j, m, k, q, o, u, v, w]; rfl
        iterate 2
          refine regv_pure (s1 := ?_) rfl rfl ?_ ?_ ?_
          rotate_left
          · simp [a, b, e, d, f, g, i, j, m, k, q, o, u, v, w]; rfl
          · first | (simp [a, b, e, d, f, g, i, j, m, k, q, o, u, v, w] <;> omega) | (have hq := w; simp at hq; simp [a, b, e, d, f, g, i, j, m, k, q, o, u, v, w, hq]; done) | skip
        refine regv_skip (s1 := ?_) ?_ ?_ ?_
        rotate_left
        · simp [a, b, e, d, f, g, i, j, m, k, q, o, u, v, w]; done
        · simp [a, b, e, d, f, g, i, j, m, k, q, o, u, v, w]; rfl
        refine regv_skip (s1 := ?_) ?_ ?_ ?_
        rotate_left
        · simp [a, b, e, d, f, g, i, j, m, k, q, o, u, v, w]; done
        · simp [a, b, e, d, f, g, i, j, m, k, q, o, u, v, w]; rfl
        iterate 2
          refine regv_pure (s1 := ?_) rfl rfl ?_ ?_ ?_
          rotate_left
          · simp [a, b, e, d, f, g, i, j, m, k, q, o, u, v, w]; rfl
          · first | (simp [a, b, e, d, f, g, i, j, m, k, q, o, u, v, w] <;> omega) | (have hq := w; simp at hq; simp [a, b, e, d, f, g, i, j, m, k, q, o, u, v, w, hq]; done) | skip
        refine regv_skip (s1 := ?_) ?_ ?_ ?_
        rotate_left
        · simp [a, b, e, d, f, g, i, j, m, k, q, o, u, v, w]; done
        · simp [a, b, e, d, f, g, i, j, m, k, q, o, u, v, w]; rfl
        refine regv_skip (s1 := ?_) ?_ ?_ ?_
        rotate_left
        · simp [a, b, e, d, f, g, i, j, m, k, q, o, u, v, w]; done
        · simp [a, b, e, d, f, g, i, j, m, k, q, o, u, v, w]; rfl
        refine regv_skip (s1 := ?_) ?_ ?_ ?_
        rotate_left
        · simp [a, b, e, d, f, g, i, j, m, k, q, o, u, v, w]; done
        · simp [a, b, e, d, f, g, i, j, m, k, q, o, u, v, w]; rfl
        refine regv_skip (s1 := ?_) ?_ ?_ ?_
        rotate_left
        · simp [a, b, e, d, f, g, i, j, m, k, q, o, u, v, w]; done
        · simp [a, b, e, d, f, g, i, j, m, k, q, o, u, v, w]; rfl
        iterate 2
          refine regv_pure (s1 := ?_) rfl rfl ?_ ?_ ?_
          rotate_left
          · simp [a, b, e, d, f, g, i, j, m, k, q, o, u, v, w]; rfl
          · first | (simp [a, b, e, d, f, g, i, j, m, k, q, o, u, v, w] <;> omega) | (have hq := w; simp at hq; simp [a, b, e, d, f, g, i, j, m, k, q, o, u, v, w, hq]; done) | skip
        refine regv_skip (s1 := ?_) ?_ ?_ ?_
        rotate_left
        · simp [a, b, e, d, f, g, i, j, m, k, q, o, u, v, w]; done
        · simp [a, b, e, d, f, g, i, j, m, k, q, o, u, v, w]; rfl
        refine regv_skip (s1 := ?_) ?_ ?_ ?_
        rotate_left
        · simp [a, b, e, d, f, g, i, j, m, k, q, o, u, v, w]; done
        · simp [a, b, e, d, f, g, i, j, m, k, q, o, u, v, w]; rfl
        refine regv_skip (s1 := ?_) ?_ ?_ ?_
        rotate_left
        · simp [a, b, e, d, f, g, i, j, m, k, q, o, u, v, w]; done
        · simp [a, b, e, d, f, g, i, j, m, k, q, o, u, v, w]; rfl
        refine regv_skip (s1 := ?_) ?_ ?_ ?_
        rotate_left
        · simp [a, b, e, d, f, g, i, j, m, k, q, o, u, v, w]; done
        · simp [a, b, e, d, f, g, i, j, m, k, q, o, u, v, w]; rfl
        refine regv_skip (s1 := ?_) ?_ ?_ ?_
        rotate_left
        · simp [a, b, e, d, f, g, i, j, m, k, q, o, u, v, w]; done
        · simp [a, b, e, d, f, g, i, j, m, k, q, o, u, v, w]; rfl
        iterate 2
          refine regv_pure (s1 := ?_) rfl rfl ?_ ?_ ?_
          rotate_left
          · simp [a, b, e, d, f, g, i, j, m, k, q, o, u, v, w]; rfl
          · first | (simp [a, b, e, d, f, g, i, j, m, k, q, o, u, v, w] <;> omega) | (have hq := w; simp at hq; simp [a, b, e, d, f, g, i, j, m, k, q, o, u, v, w, hq]; done) | skip
        refine regv_nil ?_
        cases h
        refine Wp.ret (endQ_ret0 rfl ?_)
        repeat' first | exact All2.nil | refine All2.cons ?_ ?_ | refine AvLe.tups ?_ | refine AvLe.aggs ?_
        all_goals first
          | (exact AvLe.refl _ rfl)
          | (exact AvLe.nil _)
          | (exact AvLe.znil _)
          | (exact AvLe.ghost _ rfl)
          | (exact AvLe.zghost _ rfl)
          | (exact AvLe.sl' rfl (by simp [a, b, e, d, f, g, i, j, m, k, q, o, u, v, w]; done) (by simp [a, b, e, d, f, g, i, j, m, k, q, o, u, v, w]; done))
          | (exact AvLe.frz' rfl rfl rfl (by simp [a, b, e, d, f, g, i, j, m, k, q, o, u, v, w]; done) (by simp [a, b, e, d, f, g, i, j, m, k, q, o, u, v, w]; done) (by simp [a, b, e, d, f, g, i, j, m, k, q, o, u, v, w]; done))
          | (exact AvLe.list' (by simp [a, b, e, d, f, g, i, j, m, k, q, o, u, v, w]; done) (by simp [a, b, e, d, f, g, i, j, m, k, q, o, u, v, w]; done))
          | (exact AvLe.eq (by simp [a, b, e, d, f, g, i, j, m, k, q, o, u, v, w]; done) rfl)
      · rw [w, if_pos rfl] at h
        refine regv_pure (s1 := ?_) rfl ?_ ?_ ?_ ?_
        rotate_left
        · simp [a, b, e, d, f, g, i, j, m, k, q, o, u, v, w]; done
        · simp [a, b, e, d, f, g, i, j, m, k, q, o, u, v, w]; rfl
        · first | (simp [a, b, e, d, f, g, i, j, m, k, q, o, u, v, w] <;> omega) | (have hq := w; simp at hq; simp [a, b, e, d, f, g, i, j, m, k, q, o, u, v, w, hq]; done) | skip
        refine regv_pure (s1 := ?_) rfl ?_ ?_ ?_ ?_
        rotate_left
        · simp [a, b, e, d, f, g, i, j, m, k, q, o, u, v, w]; done
        · simp [a, b, e, d, f, g, i, j, m, k, q, o, u, v, w]; rfl
        · first | (simp [a, b, e, d, f, g, i, j, m, k, q, o, u, v, w] <;> omega) | (have hq := w; simp at hq; simp [a, b, e, d, f, g, i, j, m, k, q, o, u, v, w, hq]; done) | skip
        obtain ⟨bu, bg, h⟩ := obind h
        obtain ⟨ab, aa, z⟩ := atI_some bg
        try simp [a, b, e, d, f, g, i, j, m, k, q, o, u, v, w] at aa
        try simp only [Int.toNat_natCast, Int.reduceToNat, Nat.zero_add, Nat.add_zero] at z
        have y := getElem_of z
        refine regv_pure (s1 := ?_) rfl ?_ ?_ ?_ ?_
        rotate_left
        · simp [a, b, e, d, f, g, i, j, m, k, q, o, u, v, w, ab, aa, z, y]; done
        · simp [a, b, e, d, f, g, i, j, m, k, q, o, u, v, w, ab, aa, z, y]; rfl
        · first | (simp [a, b, e, d, f, g, i, j, m, k, q, o, u, v, w, ab, aa, z, y] <;> omega) | (have hq := y; simp at hq; simp [a, b, e, d, f, g, i, j, m, k, q, o, u, v, w, ab, aa, z, y, hq]; done) | skip
        refine regv_pure (s1 := ?_) rfl ?_ ?_ ?_ ?_
        rotate_left
        · simp [a, b, e, d, f, g, i, j, m, k, q, o, u, v, w, ab, aa, z, y]; done
        · simp [a, b, e, d, f, g, i, j, m, k, q, o, u, v, w, ab, aa, z, y]; rfl
        · first | (simp [a, b, e, d, f, g, i, j, m, k, q, o, u, v, w, ab, aa, z, y] <;> omega) | (have hq := y; simp at hq; simp [a, b, e, d, f, g, i, j, m, k, q, o, u, v, w, ab, aa, z, y, hq]; done) | skip
        iterate 2
          refine regv_pure (s1 := ?_) rfl rfl ?_ ?_ ?_
          rotate_left
          · simp [a, b, e, d, f, g, i, j, m, k, q, o, u, v, w, ab, aa, z, y]; rfl
          · first | (simp [a, b, e, d, f, g, i, j, m, k, q, o, u, v, w, ab, aa, z, y] <;> omega) | (have hq := y; simp at hq; simp [a, b, e, d, f, g, i, j, m, k, q, o, u, v, w, ab, aa, z, y, hq]; done) | skip
        refine (Bool.eq_false_or_eq_true bu).symm.elim (fun ac => ?_) (fun ac => ?_)
        · rw [if_neg (by rw [ac]; simp)] at h
          refine regv_skip (s1 := ?_) ?_ ?_ ?_
          rotate_left
          · simp [a, b, e, d, f, g, i, j, m, k, q, o, u, v, w, ab, aa, z, y, ac]; done
          · simp [a, b, e, d, f, g, i, j, m, k, q, o, u, v, w, ab, aa, z, y, ac]; rfl
          refine regv_skip (s1 := ?_) ?_ ?_ ?_
          rotate_left
          · simp [a, b, e, d, f, g, i, j, m, k, q, o, u, v, w, ab, aa, z, y, ac]; done
          · simp [a, b, e, d, f, g, i, j, m, k, q, o, u, v, w, ab, aa, z, y, ac]; rfl
          refine regv_skip (s1 := ?_) ?_ ?_ ?_
          rotate_left
          · simp [a, b, e, d, f, g, i, j, m, k, q, o, u, v, w, ab, aa, z, y, ac]; done
          · simp [a, b, e, d, f, g, i, j, m, k, q, o, u, v, w, ab, aa, z, y, ac]; rfl
          refine regv_skip (s1 := ?_) ?_ ?_ ?_
          rotate_left
          · simp [a, b, e, d, f, g, i, j, m, k, q, o, u, v, w, ab, aa, z, y, ac]; done
          · simp [a, b, e, d, f, g, i, j, m, k, q, o, u, v, w, ab, aa, z, y, ac]; rfl
          iterate 2
            refine regv_pure (s1 := ?_) rfl rfl ?_ ?_ ?_
            rotate_left
            · simp [a, b, e, d, f, g, i, j, m, k, q, o, u, v, w, ab, aa, z, y, ac]; rfl
            · first | (simp [a, b, e, d, f, g, i, j, m, k, q, o, u, v, w, ab, aa, z, y, ac] <;> omega) | (have hq := ac; simp at hq; simp [a, b, e, d, f, g, i, j, m, k, q, o, u, v, w, ab, aa, z, y, ac, hq]; done) | skip
          refine regv_skip (s1 := ?_) ?_ ?_ ?_
          rotate_left
          · simp [a, b, e, d, f, g, i, j, m, k, q, o, u, v, w, ab, aa, z, y, ac]; done
          · simp [a, b, e, d, f, g, i, j, m, k, q, o, u, v, w, ab, aa, z, y, ac]; rfl
          refine regv_skip (s1 := ?_) ?_ ?_ ?_
          rotate_left
          · simp [a, b, e, d, f, g, i, j, m, k, q, o, u, v, w, ab, aa, z, y, ac]; done
          · simp [a, b, e, d, f, g, i, j, m, k, q, o, u, v, w, ab, aa, z, y, ac]; rfl
          refine regv_skip (s1 := ?_) ?_ ?_ ?_
          rotate_left
          · simp [a, b, e, d, f, g, i, j, m, k, q, o, u, v, w, ab, aa, z, y, ac]; done
          · simp [a, b, e, d, f, g, i, j, m, k, q, o, u, v, w, ab, aa, z, y, ac]; rfl
          refine regv_skip (s1 := ?_) ?_ ?_ ?_
          rotate_left
          · simp [a, b, e, d, f, g, i, j, m, k, q, o, u, v, w, ab, aa, z, y, ac]; done
          · simp [a, b, e, d, f, g, i, j, m, k, q, o, u, v, w, ab, aa, z, y, ac]; rfl
          iterate 2
            refine regv_pure (s1 := ?_) rfl rfl ?_ ?_ ?_
            rotate_left
            · simp [a, b, e, d, f, g, i, j, m, k, q, o, u, v, w, ab, aa, z, y, ac]; rfl
            · first | (simp [a, b, e, d, f, g, i, j, m, k, q, o, u, v, w, ab, aa, z, y, ac] <;> omega) | (have hq := ac; simp at hq; simp [a, b, e, d, f, g, i, j, m, k, q, o, u, v, w, ab, aa, z, y, ac, hq]; done) | skip
          refine regv_skip (s1 := ?_) ?_ ?_ ?_
          rotate_left
          · simp [a, b, e, d, f, g, i, j, m, k, q, o, u, v, w, ab, aa, z, y, ac]; done
          · simp [a, b, e, d, f, g, i, j, m, k, q, o, u, v, w, ab, aa, z, y, ac]; rfl
          refine regv_skip (s1 := ?_) ?_ ?_ ?_
          rotate_left
          · simp [a, b, e, d, f, g, i, j, m, k, q, o, u, v, w, ab, aa, z, y, ac]; done
          · simp [a, b, e, d, f, g, i, j, m, k, q, o, u, v, w, ab, aa, z, y, ac]; rfl
          iterate 2
            refine regv_pure (s1 := ?_) rfl rfl ?_ ?_ ?_
            rotate_left
            · simp [a, b, e, d, f, g, i, j, m, k, q, o, u, v, w, ab, aa, z, y, ac]; rfl
            · first | (simp [a, b, e, d, f, g, i, j, m, k, q, o, u, v, w, ab, aa, z, y, ac] <;> omega) | (have hq := ac; simp at hq; simp [a, b, e, d, f, g, i, j, m, k, q, o, u, v, w, ab, aa, z, y, ac, hq]; done) | skip
          refine regv_skip (s1 := ?_) ?_ ?_ ?_
          rotate_left
          · simp [a, b, e, d, f, g, i, j, m, k, q, o, u, v, w, ab, aa, z, y, ac]; done
          · simp [a, b, e, d, f, g, i, j, m, k, q, o, u, v, w, ab, aa, z, y, ac]; rfl
          refine regv_skip (s1 := ?_) ?_ ?_ ?_
          rotate_left
          · simp [a, b, e, d, f, g, i, j, m, k, q, o, u, v, w, ab, aa, z, y, ac]; done
          · simp [a, b, e, d, f, g, i, j, m, k, q, o, u, v, w, ab, aa, z, y, ac]; rfl
          iterate 2
            refine regv_pure (s1 := ?_) rfl rfl ?_ ?_ ?_
            rotate_left
            · simp [a, b, e, d, f, g, i, j, m, k, q, o, u, v, w, ab, aa, z, y, ac]; rfl
            · first | (simp [a, b, e, d, f, g, i, j, m, k, q, o, u, v, w, ab, aa, z, y, ac] <;> omega) | (have hq := ac; simp at hq; simp [a, b, e, d, f, g, i, j, m, k, q, o, u, v, w, ab, aa, z, y, ac, hq]; done) | skip
          refine regv_skip (s1 := ?_) ?_ ?_ ?_
          rotate_left
          · simp [a, b, e, d, f, g, i, j, m, k, q, o, u, v, w, ab, aa, z, y, ac]; done
          · simp [a, b, e, d, f, g, i, j, m, k, q, o, u, v, w, ab, aa, z, y, ac]; rfl
          refine regv_skip (s1 := ?_) ?_ ?_ ?_
          rotate_left
          · simp [a, b, e, d, f, g, i, j, m, k, q, o, u, v, w, ab, aa, z, y, ac]; done
          · simp [a, b, e, d, f, g, i, j, m, k, q, o, u, v, w, ab, aa, z, y, ac]; rfl
          refine regv_skip (s1 := ?_) ?_ ?_ ?_
          rotate_left
          · simp [a, b, e, d, f, g, i, j, m, k, q, o, u, v, w, ab, aa, z, y, ac]; done
          · simp [a, b, e, d, f, g, i, j, m, k, q, o, u, v, w, ab, aa, z, y, ac]; rfl
          refine regv_skip (s1 := ?_) ?_ ?_ ?_
          rotate_left
          · simp [a, b, e, d, f, g, i, j, m, k, q, o, u, v, w, ab, aa, z, y, ac]; done
          · simp [a, b, e, d, f, g, i, j, m, k, q, o, u, v, w, ab, aa, z, y, ac]; rfl
          iterate 2
            refine regv_pure (s1 := ?_) rfl rfl ?_ ?_ ?_
            rotate_left
            · simp [a, b, e, d, f, g, i, j, m, k, q, o, u, v, w, ab, aa, z, y, ac]; rfl
            · first | (simp [a, b, e, d, f, g, i, j, m, k, q, o, u, v, w, ab, aa, z, y, ac] <;> omega) | (have hq := ac; simp at hq; simp [a, b, e, d, f, g, i, j, m, k, q, o, u, v, w, ab, aa, z, y, ac, hq]; done) | skip
          refine regv_skip (s1 := ?_) ?_ ?_ ?_
          rotate_left
          · simp [a, b, e, d, f, g, i, j, m, k, q, o, u, v, w, ab, aa, z, y, ac]; done
          · simp [a, b, e, d, f, g, i, j, m, k, q, o, u, v, w, ab, aa, z, y, ac]; rfl
          refine regv_skip (s1 := ?_) ?_ ?_ ?_
          rotate_left
          · simp [a, b, e, d, f, g, i, j, m, k, q, o, u, v, w, ab, aa, z, y, ac]; done
          · simp [a, b, e, d, f, g, i, j, m, k, q, o, u, v, w, ab, aa, z, y, ac]; rfl
          refine regv_skip (s1 := ?_) ?_ ?_ ?_
          rotate_left
          · simp [a, b, e, d, f, g, i, j, m, k, q, o, u, v, w, ab, aa, z, y, ac]; done
          · simp [a, b, e, d, f, g, i, j, m, k, q, o, u, v, w, ab, aa, z, y, ac]; rfl
          refine regv_skip (s1 := ?_) ?_ ?_ ?_
          rotate_left
          · simp [a, b, e, d, f, g, i, j, m, k, q, o, u, v, w, ab, aa, z, y, ac]; done
          · simp [a, b, e, d, f, g, i, j, m, k, q, o, u, v, w, ab, aa, z, y, ac]; rfl
          refine regv_skip (s1 := ?_) ?_ ?_ ?_
          rotate_left
          · simp [a, b, e, d, f, g, i, j, m, k, q, o, u, v, w, ab, aa, z, y, ac]; done
          · simp [a, b, e, d, f, g, i, j, m, k, q, o, u, v, w, ab, aa, z, y, ac]; rfl
          iterate 2
            refine regv_pure (s1 := ?_) rfl rfl ?_ ?_ ?_
            rotate_left
            · simp [a, b, e, d, f, g, i, j, m, k, q, o, u, v, w, ab, aa, z, y, ac]; rfl
            · first | (simp [a, b, e, d, f, g, i, j, m, k, q, o, u, v, w, ab, aa, z, y, ac] <;> omega) | (have hq := ac; simp at hq; simp [a, b, e, d, f, g, i, j, m, k, q, o, u, v, w, ab, aa, z, y, ac, hq]; done) | skip
          refine regv_nil ?_
          cases h
          refine Wp.ret (endQ_ret0 rfl ?_)
          repeat' first | exact All2.nil | refine All2.cons ?_ ?_ | refine AvLe.tups ?_ | refine AvLe.aggs ?_
          all_goals first
            | (exact AvLe.refl _ rfl)
            | (exact AvLe.nil _)
            | (exact AvLe.znil _)
            | (exact AvLe.ghost _ rfl)
            | (exact AvLe.zghost _ rfl)
            | (exact AvLe.sl' rfl (by simp [a, b, e, d, f, g, i, j, m, k, q, o, u, v, w, ab, aa, z, y, ac]; done) (by simp [a, b, e, d, f, g, i, j, m, k, q, o, u, v, w, ab, aa, z, y, ac]; done))
            | (exact AvLe.frz' rfl rfl rfl (by simp [a, b, e, d, f, g, i, j, m, k, q, o, u, v, w, ab, aa, z, y, ac]; done) (by simp [a, b, e, d, f, g, i, j, m, k, q, o, u, v, w, ab, aa, z, y, ac]; done) (by simp [a, b, e, d, f, g, i, j, m, k, q, o, u, v, w, ab, aa, z, y, ac]; done))
            | (exact AvLe.list' (by simp [a, b, e, d, f, g, i, j, m, k, q, o, u, v, w, ab, aa, z, y, ac]; done) (by simp [a, b, e, d, f, g, i, j, m, k, q, o, u, v, w, ab, aa, z, y, ac]; done))
            | (exact AvLe.eq (by simp [a, b, e, d, f, g, i, j, m, k, q, o, u, v, w, ab, aa, z, y, ac]; done) rfl)
        · rw [if_pos ac] at h
          refine regv_pure (s1 := ?_) rfl ?_ ?_ ?_ ?_
          rotate_left
          · simp [a, b, e, d, f, g, i, j, m, k, q, o, u, v, w, ab, aa, z, y, ac]; done
          · simp [a, b, e, d, f, g, i, j, m, k, q, o, u, v, w, ab, aa, z, y, ac]; rfl
          · first | (simp [a, b, e, d, f, g, i, j, m, k, q, o, u, v, w, ab, aa, z, y, ac] <;> omega) | (have hq := ac; simp at hq; simp [a, b, e, d, f, g, i, j, m, k, q, o, u, v, w, ab, aa, z, y, ac, hq]; done) | skip
          refine regv_pure (s1 := ?_) rfl ?_ ?_ ?_ ?_
          rotate_left
          · simp [a, b, e, d, f, g, i, j, m, k, q, o, u, v, w, ab, aa, z, y, ac]; done
          · simp [a, b, e, d, f, g, i, j, m, k, q, o, u, v, w, ab, aa, z, y, ac]; rfl
          · first | (simp [a, b, e, d, f, g, i, j, m, k, q, o, u, v, w, ab, aa, z, y, ac] <;> omega) | (have hq := ac; simp at hq; simp [a, b, e, d, f, g, i, j, m, k, q, o, u, v, w, ab, aa, z, y, ac, hq]; done) | skip
          refine regv_pure (s1 := ?_) rfl ?_ ?_ ?_ ?_
          rotate_left
          · simp [a, b, e, d, f, g, i, j, m, k, q, o, u, v, w, ab, aa, z, y, ac]; done
          · simp [a, b, e, d, f, g, i, j, m, k, q, o, u, v, w, ab, aa, z, y, ac]; rfl
          · first | (simp [a, b, e, d, f, g, i, j, m, k, q, o, u, v, w, ab, aa, z, y, ac] <;> omega) | (have hq := ac; simp at hq; simp [a, b, e, d, f, g, i, j, m, k, q, o, u, v, w, ab, aa, z, y, ac, hq]; done) | skip
          refine regv_pure (s1 := ?_) rfl ?_ ?_ ?_ ?_
          rotate_left
          · simp [a, b, e, d, f, g, i, j, m, k, q, o, u, v, w, ab, aa, z, y, ac]; done
          · simp [a, b, e, d, f, g, i, j, m, k, q, o, u, v, w, ab, aa, z, y, ac]; rfl
          · first | (simp [a, b, e, d, f, g, i, j, m, k, q, o, u, v, w, ab, aa, z, y, ac] <;> omega) | (have hq := ac; simp at hq; simp [a, b, e, d, f, g, i, j, m, k, q, o, u, v, w, ab, aa, z, y, ac, hq]; done) | skip
          iterate 2
            refine regv_pure (s1 := ?_) rfl rfl ?_ ?_ ?_
            rotate_left
            · simp [a, b, e, d, f, g, i, j, m, k, q, o, u, v, w, ab, aa, z, y, ac]; rfl
            · first | (simp [a, b, e, d, f, g, i, j, m, k, q, o, u, v, w, ab, aa, z, y, ac] <;> omega) | (have hq := ac; simp at hq; simp [a, b, e, d, f, g, i, j, m, k, q, o, u, v, w, ab, aa, z, y, ac, hq]; done) | skip
          cases ad : ((bd.E.length : Int) == 1)
          · rw [ad, if_neg (by simp)] at h
            refine regv_skip (s1 := ?_) ?_ ?_ ?_
            rotate_left
            · simp [a, b, e, d, f, g, i, j, m, k, q, o, u, v, w, ab, aa, z, y, ac, ad]; done
            · simp [a, b, e, d, f, g, i, j, m, k, q, o, u, v, w, ab, aa, z, y, ac, ad]; rfl
            refine regv_skip (s1 := ?_) ?_ ?_ ?_
            rotate_left
            · simp [a, b, e, d, f, g, i, j, m, k, q, o, u, v, w, ab, aa, z, y, ac, ad]; done
            · simp [a, b, e, d, f, g, i, j, m, k, q, o, u, v, w, ab, aa, z, y, ac, ad]; rfl
            refine regv_skip (s1 := ?_) ?_ ?_ ?_
            rotate_left
            · simp [a, b, e, d, f, g, i, j, m, k, q, o, u, v, w, ab, aa, z, y, ac, ad]; done
            · simp [a, b, e, d, f, g, i, j, m, k, q, o, u, v, w, ab, aa, z, y, ac, ad]; rfl
            refine regv_skip (s1 := ?_) ?_ ?_ ?_
            rotate_left
            · simp [a, b, e, d, f, g, i, j, m, k, q, o, u, v, w, ab, aa, z, y, ac, ad]; done
            · simp [a, b, e, d, f, g, i, j, m, k, q, o, u, v, w, ab, aa, z, y, ac, ad]; rfl
            iterate 2
              refine regv_pure (s1 := ?_) rfl rfl ?_ ?_ ?_
              rotate_left
              · simp [a, b, e, d, f, g, i, j, m, k, q, o, u, v, w, ab, aa, z, y, ac, ad]; rfl
              · first | (simp [a, b, e, d, f, g, i, j, m, k, q, o, u, v, w, ab, aa, z, y, ac, ad] <;> omega) | (have hq := ad; simp at hq; simp [a, b, e, d, f, g, i, j, m, k, q, o, u, v, w, ab, aa, z, y, ac, ad, hq]; done) | skip
            refine regv_skip (s1 := ?_) ?_ ?_ ?_
            rotate_left
            · simp [a, b, e, d, f, g, i, j, m, k, q, o, u, v, w, ab, aa, z, y, ac, ad]; done
            · simp [a, b, e, d, f, g, i, j, m, k, q, o, u, v, w, ab, aa, z, y, ac, ad]; rfl
            refine regv_skip (s1 := ?_) ?_ ?_ ?_
            rotate_left
            · simp [a, b, e, d, f, g, i, j, m, k, q, o, u, v, w, ab, aa, z, y, ac, ad]; done
            · simp [a, b, e, d, f, g, i, j, m, k, q, o, u, v, w, ab, aa, z, y, ac, ad]; rfl
            iterate 2
              refine regv_pure (s1 := ?_) rfl rfl ?_ ?_ ?_
              rotate_left
              · simp [a, b, e, d, f, g, i, j, m, k, q, o, u, v, w, ab, aa, z, y, ac, ad]; rfl
              · first | (simp [a, b, e, d, f, g, i, j, m, k, q, o, u, v, w, ab, aa, z, y, ac, ad] <;> omega) | (have hq := ad; simp at hq; simp [a, b, e, d, f, g, i, j, m, k, q, o, u, v, w, ab, aa, z, y, ac, ad, hq]; done) | skip
            refine regv_skip (s1 := ?_) ?_ ?_ ?_
            rotate_left
            · simp [a, b, e, d, f, g, i, j, m, k, q, o, u, v, w, ab, aa, z, y, ac, ad]; done
            · simp [a, b, e, d, f, g, i, j, m, k, q, o, u, v, w, ab, aa, z, y, ac, ad]; rfl
            refine regv_skip (s1 := ?_) ?_ ?_ ?_
            rotate_left
            · simp [a, b, e, d, f, g, i, j, m, k, q, o, u, v, w, ab, aa, z, y, ac, ad]; done
            · simp [a, b, e, d, f, g, i, j, m, k, q, o, u, v, w, ab, aa, z, y, ac, ad]; rfl
            iterate 2
              refine regv_pure (s1 := ?_) rfl rfl ?_ ?_ ?_
              rotate_left
              · simp [a, b, e, d, f, g, i, j, m, k, q, o, u, v, w, ab, aa, z, y, ac, ad]; rfl
              · first | (simp [a, b, e, d, f, g, i, j, m, k, q, o, u, v, w, ab, aa, z, y, ac, ad] <;> omega) | (have hq := ad; simp at hq; simp [a, b, e, d, f, g, i, j, m, k, q, o, u, v, w, ab, aa, z, y, ac, ad, hq]; done) | skip
            refine regv_skip (s1 := ?_) ?_ ?_ ?_
            rotate_left
            · simp [a, b, e, d, f, g, i, j, m, k, q, o, u, v, w, ab, aa, z, y, ac, ad]; done
            · simp [a, b, e, d, f, g, i, j, m, k, q, o, u, v, w, ab, aa, z, y, ac, ad]; rfl
            refine regv_skip (s1 := ?_) ?_ ?_ ?_
            rotate_left
            · simp [a, b, e, d, f, g, i, j, m, k, q, o, u, v, w, ab, aa, z, y, ac, ad]; done
            · simp [a, b, e, d, f, g, i, j, m, k, q, o, u, v, w, ab, aa, z, y, ac, ad]; rfl
            refine regv_skip (s1 := ?_) ?_ ?_ ?_
            rotate_left
            · simp [a, b, e, d, f, g, i, j, m, k, q, o, u, v, w, ab, aa, z, y, ac, ad]; done
            · simp [a, b, e, d, f, g, i, j, m, k, q, o, u, v, w, ab, aa, z, y, ac, ad]; rfl
            refine regv_skip (s1 := ?_) ?_ ?_ ?_
            rotate_left
            · simp [a, b, e, d, f, g, i, j, m, k, q, o, u, v, w, ab, aa, z, y, ac, ad]; done
            · simp [a, b, e, d, f, g, i, j, m, k, q, o, u, v, w, ab, aa, z, y, ac, ad]; rfl
            iterate 2
              refine regv_pure (s1 := ?_) rfl rfl ?_ ?_ ?_
              rotate_left
              · simp [a, b, e, d, f, g, i, j, m, k, q, o, u, v, w, ab, aa, z, y, ac, ad]; rfl
              · first | (simp [a, b, e, d, f, g, i, j, m, k, q, o, u, v, w, ab, aa, z, y, ac, ad] <;> omega) | (have hq := ad; simp at hq; simp [a, b, e, d, f, g, i, j, m, k, q, o, u, v, w, ab, aa, z, y, ac, ad, hq]; done) | skip
            refine regv_skip (s1 := ?_) ?_ ?_ ?_
            rotate_left
            · simp [a, b, e, d, f, g, i, j, m, k, q, o, u, v, w, ab, aa, z, y, ac, ad]; done
            · simp [a, b, e, d, f, g, i, j, m, k, q, o, u, v, w, ab, aa, z, y, ac, ad]; rfl
            refine regv_skip (s1 := ?_) ?_ ?_ ?_
            rotate_left
            · simp [a, b, e, d, f, g, i, j, m, k, q, o, u, v, w, ab, aa, z, y, ac, ad]; done
            · simp [a, b, e, d, f, g, i, j, m, k, q, o, u, v, w, ab, aa, z, y, ac, ad]; rfl
            refine regv_skip (s1 := ?_) ?_ ?_ ?_
            rotate_left
            · simp [a, b, e, d, f, g, i, j, m, k, q, o, u, v, w, ab, aa, z, y, ac, ad]; done
            · simp [a, b, e, d, f, g, i, j, m, k, q, o, u, v, w, ab, aa, z, y, ac, ad]; rfl
            refine regv_skip (s1 := ?_) ?_ ?_ ?_
            rotate_left
            · simp [a, b, e, d, f, g, i, j, m, k, q, o, u, v, w, ab, aa, z, y, ac, ad]; done
            · simp [a, b, e, d, f, g, i, j, m, k, q, o, u, v, w, ab, aa, z, y, ac, ad]; rfl
            refine regv_skip (s1 := ?_) ?_ ?_ ?_
            rotate_left
            · simp [a, b, e, d, f, g, i, j, m, k, q, o, u, v, w, ab, aa, z, y, ac, ad]; done
            · simp [a, b, e, d, f, g, i, j, m, k, q, o, u, v, w, ab, aa, z, y, ac, ad]; rfl
            iterate 2
              refine regv_pure (s1 := ?_) rfl rfl ?_ ?_ ?_
              rotate_left
              · simp [a, b, e, d, f, g, i, j, m, k, q, o, u, v, w, ab, aa, z, y, ac, ad]; rfl
              · first | (simp [a, b, e, d, f, g, i, j, m, k, q, o, u, v, w, ab, aa, z, y, ac, ad] <;> omega) | (have hq := ad; simp at hq; simp [a, b, e, d, f, g, i, j, m, k, q, o, u, v, w, ab, aa, z, y, ac, ad, hq]; done) | skip
            refine regv_nil ?_
            cases h
            refine Wp.ret (endQ_ret0 rfl ?_)
            repeat' first | exact All2.nil | refine All2.cons ?_ ?_ | refine AvLe.tups ?_ | refine AvLe.aggs ?_
            all_goals first
              | (exact AvLe.refl _ rfl)
              | (exact AvLe.nil _)
              | (exact AvLe.znil _)
              | (exact AvLe.ghost _ rfl)
              | (exact AvLe.zghost _ rfl)
              | (exact AvLe.sl' rfl (by simp [a, b, e, d, f, g, i, j, m, k, q, o, u, v, w, ab, aa, z, y, ac, ad]; done) (by simp [a, b, e, d, f, g, i, j, m, k, q, o, u, v, w, ab, aa, z, y, ac, ad]; done))
              | (exact AvLe.frz' rfl rfl rfl (by simp [a, b, e, d, f, g, i, j, m, k, q, o, u, v, w, ab, aa, z, y, ac, ad]; done) (by simp [a, b, e, d, f, g, i, j, m, k, q, o, u, v, w, ab, aa, z, y, ac, ad]; done) (by simp [a, b, e, d, f, g, i, j, m, k, q, o, u, v, w, ab, aa, z, y, ac, ad]; done))
              | (exact AvLe.list' (by simp [a, b, e, d, f, g, i, j, m, k, q, o, u, v, w, ab, aa, z, y, ac, ad]; done) (by simp [a, b, e, d, f, g, i, j, m, k, q, o, u, v, w, ab, aa, z, y, ac, ad]; done))
              | (exact AvLe.eq (by simp [a, b, e, d, f, g, i, j, m, k, q, o, u, v, w, ab, aa, z, y, ac, ad]; done) rfl)
          · rw [ad, if_pos rfl] at h
            refine regv_pure (s1 := ?_) rfl ?_ ?_ ?_ ?_
            rotate_left
            · simp [a, b, e, d, f, g, i, j, m, k, q, o, u, v, w, ab, aa, z, y, ac, ad]; done
            · simp [a, b, e, d, f, g, i, j, m, k, q, o, u, v, w, ab, aa, z, y, ac, ad]; rfl
            · first | (simp [a, b, e, d, f, g, i, j, m, k, q, o, u, v, w, ab, aa, z, y, ac, ad] <;> omega) | (have hq := ad; simp at hq; simp [a, b, e, d, f, g, i, j, m, k, q, o, u, v, w, ab, aa, z, y, ac, ad, hq]; done) | skip
            refine regv_pure (s1 := ?_) rfl ?_ ?_ ?_ ?_
            rotate_left
            · simp [a, b, e, d, f, g, i, j, m, k, q, o, u, v, w, ab, aa, z, y, ac, ad]; done
            · simp [a, b, e, d, f, g, i, j, m, k, q, o, u, v, w, ab, aa, z, y, ac, ad]; rfl
            · first | (simp [a, b, e, d, f, g, i, j, m, k, q, o, u, v, w, ab, aa, z, y, ac, ad] <;> omega) | (have hq := ad; simp at hq; simp [a, b, e, d, f, g, i, j, m, k, q, o, u, v, w, ab, aa, z, y, ac, ad, hq]; done) | skip
            obtain ⟨bv, bi, h⟩ := obind h
            obtain ⟨ai, ag, af⟩ := atI_some bi
            try simp [a, b, e, d, f, g, i, j, m, k, q, o, u, v, w, ab, aa, z, y, ac, ad] at ag
            try simp only [Int.toNat_natCast, Int.reduceToNat, Nat.zero_add, Nat.add_zero] at af
            have ae := getElem_of af
            refine regv_pure (s1 := ?_) rfl ?_ ?_ ?_ ?_
            rotate_left
            · simp [a, b, e, d, f, g, i, j, m, k, q, o, u, v, w, ab, aa, z, y, ac, ad, ai, ag, af, ae]; done
            · simp [a, b, e, d, f, g, i, j, m, k, q, o, u, v, w, ab, aa, z, y, ac, ad, ai, ag, af, ae]; rfl
            · first | (simp [a, b, e, d, f, g, i, j, m, k, q, o, u, v, w, ab, aa, z, y, ac, ad, ai, ag, af, ae] <;> omega) | (have hq := ae; simp at hq; simp [a, b, e, d, f, g, i, j, m, k, q, o, u, v, w, ab, aa, z, y, ac, ad, ai, ag, af, ae, hq]; done) | skip
            refine regv_pure (s1 := ?_) rfl ?_ ?_ ?_ ?_
            rotate_left
            · simp [a, b, e, d, f, g, i, j, m, k, q, o, u, v, w, ab, aa, z, y, ac, ad, ai, ag, af, ae]; done
            · simp [a, b, e, d, f, g, i, j, m, k, q, o, u, v, w, ab, aa, z, y, ac, ad, ai, ag, af, ae]; rfl
            · first | (simp [a, b, e, d, f, g, i, j, m, k, q, o, u, v, w, ab, aa, z, y, ac, ad, ai, ag, af, ae] <;> omega) | (have hq := ae; simp at hq; simp [a, b, e, d, f, g, i, j, m, k, q, o, u, v, w, ab, aa, z, y, ac, ad, ai, ag, af, ae, hq]; done) | skip
            iterate 2
              refine regv_pure (s1 := ?_) rfl rfl ?_ ?_ ?_
              rotate_left
              · simp [a, b, e, d, f, g, i, j, m, k, q, o, u, v, w, ab, aa, z, y, ac, ad, ai, ag, af, ae]; rfl
              · first | (simp [a, b, e, d, f, g, i, j, m, k, q, o, u, v, w, ab, aa, z, y, ac, ad, ai, ag, af, ae] <;> omega) | (have hq := ae; simp at hq; simp [a, b, e, d, f, g, i, j, m, k, q, o, u, v, w, ab, aa, z, y, ac, ad, ai, ag, af, ae, hq]; done) | skip
            refine (Bool.eq_false_or_eq_true bv).symm.elim (fun aj => ?_) (fun aj => ?_)
            · rw [if_neg (by rw [aj]; simp)] at h
              refine regv_skip (s1 := ?_) ?_ ?_ ?_
              rotate_left
              · simp [a, b, e, d, f, g, i, j, m, k, q, o, u, v, w, ab, aa, z, y, ac, ad, ai, ag, af, ae, aj]; done
              · simp [a, b, e, d, f, g, i, j, m, k, q, o, u, v, w, ab, aa, z, y, ac, ad, ai, ag, af, ae, aj]; rfl
              refine regv_skip (s1 := ?_) ?_ ?_ ?_
              rotate_left
              · simp [a, b, e, d, f, g, i, j, m, k, q, o, u, v, w, ab, aa, z, y, ac, ad, ai, ag, af, ae, aj]; done
              · simp [a, b, e, d, f, g, i, j, m, k, q, o, u, v, w, ab, aa, z, y, ac, ad, ai, ag, af, ae, aj]; rfl
              iterate 2
                refine regv_pure (s1 := ?_) rfl rfl ?_ ?_ ?_
                rotate_left
                · simp [a, b, e, d, f, g, i, j, m, k, q, o, u, v, w, ab, aa, z, y, ac, ad, ai, ag, af, ae, aj]; rfl
                · first | (simp [a, b, e, d, f, g, i, j, m, k, q, o, u, v, w, ab, aa, z, y, ac, ad, ai, ag, af, ae, aj] <;> omega) | (have hq := aj; simp at hq; simp [a, b, e, d, f, g, i, j, m, k, q, o, u, v, w, ab, aa, z, y, ac, ad, ai, ag, af, ae, aj, hq]; done) | skip
              refine regv_skip (s1 := ?_) ?_ ?_ ?_
              rotate_left
              · simp [a, b, e, d, f, g, i, j, m, k, q, o, u, v, w, ab, aa, z, y, ac, ad, ai, ag, af, ae, aj]; done
              · simp [a, b, e, d, f, g, i, j, m, k, q, o, u, v, w, ab, aa, z, y, ac, ad, ai, ag, af, ae, aj]; rfl
              refine regv_skip (s1 := ?_) ?_ ?_ ?_
              rotate_left
              · simp [a, b, e, d, f, g, i, j, m, k, q, o, u, v, w, ab, aa, z, y, ac, ad, ai, ag, af, ae, aj]; done
              · simp [a, b, e, d, f, g, i, j, m, k, q, o, u, v, w, ab, aa, z, y, ac, ad, ai, ag, af, ae, aj]; rfl
              iterate 2
                refine regv_pure (s1 := ?_) rfl rfl ?_ ?_ ?_
                rotate_left
                · simp [a, b, e, d, f, g, i, j, m, k, q, o, u, v, w, ab, aa, z, y, ac, ad, ai, ag, af, ae, aj]; rfl
                · first | (simp [a, b, e, d, f, g, i, j, m, k, q, o, u, v, w, ab, aa, z, y, ac, ad, ai, ag, af, ae, aj] <;> omega) | (have hq := aj; simp at hq; simp [a, b, e, d, f, g, i, j, m, k, q, o, u, v, w, ab, aa, z, y, ac, ad, ai, ag, af, ae, aj, hq]; done) | skip
              refine regv_skip (s1 := ?_) ?_ ?_ ?_
              rotate_left
              · simp [a, b, e, d, f, g, i, j, m, k, q, o, u, v, w, ab, aa, z, y, ac, ad, ai, ag, af, ae, aj]; done
              · simp [a, b, e, d, f, g, i, j, m, k, q, o, u, v, w, ab, aa, z, y, ac, ad, ai, ag, af, ae, aj]; rfl
              refine regv_skip (s1 := ?_) ?_ ?_ ?_
              rotate_left
              · simp [a, b, e, d, f, g, i, j, m, k, q, o, u, v, w, ab, aa, z, y, ac, ad, ai, ag, af, ae, aj]; done
              · simp [a, b, e, d, f, g, i, j, m, k, q, o, u, v, w, ab, aa, z, y, ac, ad, ai, ag, af, ae, aj]; rfl
              refine regv_skip (s1 := ?_) ?_ ?_ ?_
              rotate_left
              · simp [a, b, e, d, f, g, i, j, m, k, q, o, u, v, w, ab, aa, z, y, ac, ad, ai, ag, af, ae, aj]; done
              · simp [a, b, e, d, f, g, i, j, m, k, q, o, u, v, w, ab, aa, z, y, ac, ad, ai, ag, af, ae, aj]; rfl
              refine regv_skip (s1 := ?_) ?_ ?_ ?_
              rotate_left
              · simp [a, b, e, d, f, g, i, j, m, k, q, o, u, v, w, ab, aa, z, y, ac, ad, ai, ag, af, ae, aj]; done
              · simp [a, b, e, d, f, g, i, j, m, k, q, o, u, v, w, ab, aa, z, y, ac, ad, ai, ag, af, ae, aj]; rfl
              iterate 2
                refine regv_pure (s1 := ?_) rfl rfl ?_ ?_ ?_
                rotate_left
                · simp [a, b, e, d, f, g, i, j, m, k, q, o, u, v, w, ab, aa, z, y, ac, ad, ai, ag, af, ae, aj]; rfl
                · first | (simp [a, b, e, d, f, g, i, j, m, k, q, o, u, v, w, ab, aa, z, y, ac, ad, ai, ag, af, ae, aj] <;> omega) | (have hq := aj; simp at hq; simp [a, b, e, d, f, g, i, j, m, k, q, o, u, v, w, ab, aa, z, y, ac, ad, ai, ag, af, ae, aj, hq]; done) | skip
              refine regv_skip (s1 := ?_) ?_ ?_ ?_
              rotate_left
              · simp [a, b, e, d, f, g, i, j, m, k, q, o, u, v, w, ab, aa, z, y, ac, ad, ai, ag, af, ae, aj]; done
              · simp [a, b, e, d, f, g, i, j, m, k, q, o, u, v, w, ab, aa, z, y, ac, ad, ai, ag, af, ae, aj]; rfl
              refine regv_skip (s1 := ?_) ?_ ?_ ?_
              rotate_left
              · simp [a, b, e, d, f, g, i, j, m, k, q, o, u, v, w, ab, aa, z, y, ac, ad, ai, ag, af, ae, aj]; done
              · simp [a, b, e, d, f, g, i, j, m, k, q, o, u, v, w, ab, aa, z, y, ac, ad, ai, ag, af, ae, aj]; rfl
              refine regv_skip (s1 := ?_) ?_ ?_ ?_
              rotate_left
              · simp [a, b, e, d, f, g, i, j, m, k, q, o, u, v, w, ab, aa, z, y, ac, ad, ai, ag, af, ae, aj]; done
              · simp [a, b, e, d, f, g, i, j, m, k, q, o, u, v, w, ab, aa, z, y, ac, ad, ai, ag, af, ae, aj]; rfl
              refine regv_skip (s1 := ?_) ?_ ?_ ?_
              rotate_left
              · simp [a, b, e, d, f, g, i, j, m, k, q, o, u, v, w, ab, aa, z, y, ac, ad, ai, ag, af, ae, aj]; done
              · simp [a, b, e, d, f, g, i, j, m, k, q, o, u, v, w, ab, aa, z, y, ac, ad, ai, ag, af, ae, aj]; rfl
              refine regv_skip (s1 := ?_) ?_ ?_ ?_
              rotate_left
              · simp [a, b, e, d, f, g, i, j, m, k, q, o, u, v, w, ab, aa, z, y, ac, ad, ai, ag, af, ae, aj]; done
              · simp [a, b, e, d, f, g, i, j, m, k, q, o, u, v, w, ab, aa, z, y, ac, ad, ai, ag, af, ae, aj]; rfl
              iterate 2
                refine regv_pure (s1 := ?_) rfl rfl ?_ ?_ ?_
                rotate_left
                · simp [a, b, e, d, f, g, i, j, m, k, q, o, u, v, w, ab, aa, z, y, ac, ad, ai, ag, af, ae, aj]; rfl
                · first | (simp [a, b, e, d, f, g, i, j, m, k, q, o, u, v, w, ab, aa, z, y, ac, ad, ai, ag, af, ae, aj] <;> omega) | (have hq := aj; simp at hq; simp [a, b, e, d, f, g, i, j, m, k, q, o, u, v, w, ab, aa, z, y, ac, ad, ai, ag, af, ae, aj, hq]; done) | skip
              refine regv_nil ?_
              cases h
              refine Wp.ret (endQ_ret0 rfl ?_)
              repeat' first | exact All2.nil | refine All2.cons ?_ ?_ | refine AvLe.tups ?_ | refine AvLe.aggs ?_
              all_goals first
                | (exact AvLe.refl _ rfl)
                | (exact AvLe.nil _)
                | (exact AvLe.znil _)
                | (exact AvLe.ghost _ rfl)
                | (exact AvLe.zghost _ rfl)
                | (exact AvLe.sl' rfl (by simp [a, b, e, d, f, g, i, j, m, k, q, o, u, v, w, ab, aa, z, y, ac, ad, ai, ag, af, ae, aj]; done) (by simp [a, b, e, d, f, g, i, j, m, k, q, o, u, v, w, ab, aa, z, y, ac, ad, ai, ag, af, ae, aj]; done))
                | (exact AvLe.frz' rfl rfl rfl (by simp [a, b, e, d, f, g, i, j, m, k, q, o, u, v, w, ab, aa, z, y, ac, ad, ai, ag, af, ae, aj]; done) (by simp [a, b, e, d, f, g, i, j, m, k, q, o, u, v, w, ab, aa, z, y, ac, ad, ai, ag, af, ae, aj]; done) (by simp [a, b, e, d, f, g, i, j, m, k, q, o, u, v, w, ab, aa, z, y, ac, ad, ai, ag, af, ae, aj]; done))
                | (exact AvLe.list' (by simp [a, b, e, d, f, g, i, j, m, k, q, o, u, v, w, ab, aa, z, y, ac, ad, ai, ag, af, ae, aj]; done) (by simp [a, b, e, d, f, g, i, j, m, k, q, o, u, v, w, ab, aa, z, y, ac, ad, ai, ag, af, ae, aj]; done))
                | (exact AvLe.eq (by simp [a, b, e, d, f, g, i, j, m, k, q, o, u, v, w, ab, aa, z, y, ac, ad, ai, ag, af, ae, aj]; done) rfl)
            · rw [if_pos aj] at h
              refine regv_pure (s1 := ?_) rfl ?_ ?_ ?_ ?_
              rotate_left
              · simp [a, b, e, d, f, g, i, j, m, k, q, o, u, v, w, ab, aa, z, y, ac, ad, ai, ag, af, ae, aj]; done
              · simp [a, b, e, d, f, g, i, j, m, k, q, o, u, v, w, ab, aa, z, y, ac, ad, ai, ag, af, ae, aj]; rfl
              · first | (simp [a, b, e, d, f, g, i, j, m, k, q, o, u, v, w, ab, aa, z, y, ac, ad, ai, ag, af, ae, aj] <;> omega) | (have hq := aj; simp at hq; simp [a, b, e, d, f, g, i, j, m, k, q, o, u, v, w, ab, aa, z, y, ac, ad, ai, ag, af, ae, aj, hq]; done) | skip
              refine regv_pure (s1 := ?_) rfl ?_ ?_ ?_ ?_
              rotate_left
              · simp [a, b, e, d, f, g, i, j, m, k, q, o, u, v, w, ab, aa, z, y, ac, ad, ai, ag, af, ae, aj]; done
              · simp [a, b, e, d, f, g, i, j, m, k, q, o, u, v, w, ab, aa, z, y, ac, ad, ai, ag, af, ae, aj]; rfl
              · first | (simp [a, b, e, d, f, g, i, j, m, k, q, o, u, v, w, ab, aa, z, y, ac, ad, ai, ag, af, ae, aj] <;> omega) | (have hq := aj; simp at hq; simp [a, b, e, d, f, g, i, j, m, k, q, o, u, v, w, ab, aa, z, y, ac, ad, ai, ag, af, ae, aj, hq]; done) | skip
              iterate 2
                refine regv_pure (s1 := ?_) rfl rfl ?_ ?_ ?_
                rotate_left
                · simp [a, b, e, d, f, g, i, j, m, k, q, o, u, v, w, ab, aa, z, y, ac, ad, ai, ag, af, ae, aj]; rfl
                · first | (simp [a, b, e, d, f, g, i, j, m, k, q, o, u, v, w, ab, aa, z, y, ac, ad, ai, ag, af, ae, aj] <;> omega) | (have hq := aj; simp at hq; simp [a, b, e, d, f, g, i, j, m, k, q, o, u, v, w, ab, aa, z, y, ac, ad, ai, ag, af, ae, aj, hq]; done) | skip
              cases ak : (bq == 0)
              · rw [ak, if_neg (by simp)] at h
                refine regv_skip (s1 := ?_) ?_ ?_ ?_
                rotate_left
                · simp [a, b, e, d, f, g, i, j, m, k, q, o, u, v, w, ab, aa, z, y, ac, ad, ai, ag, af, ae, aj, ak]; done
                · simp [a, b, e, d, f, g, i, j, m, k, q, o, u, v, w, ab, aa, z, y, ac, ad, ai, ag, af, ae, aj, ak]; rfl
                refine regv_skip (s1 := ?_) ?_ ?_ ?_
                rotate_left
                · simp [a, b, e, d, f, g, i, j, m, k, q, o, u, v, w, ab, aa, z, y, ac, ad, ai, ag, af, ae, aj, ak]; done
                · simp [a, b, e, d, f, g, i, j, m, k, q, o, u, v, w, ab, aa, z, y, ac, ad, ai, ag, af, ae, aj, ak]; rfl
                iterate 2
                  refine regv_pure (s1 := ?_) rfl rfl ?_ ?_ ?_
                  rotate_left
                  · simp [a, b, e, d, f, g, i, j, m, k, q, o, u, v, w, ab, aa, z, y, ac, ad, ai, ag, af, ae, aj, ak]; rfl
                  · first | (simp [a, b, e, d, f, g, i, j, m, k, q, o, u, v, w, ab, aa, z, y, ac, ad, ai, ag, af, ae, aj, ak] <;> omega) | (have hq := ak; simp at hq; simp [a, b, e, d, f, g, i, j, m, k, q, o, u, v, w, ab, aa, z, y, ac, ad, ai, ag, af, ae, aj, ak, hq]; done) | skip
                refine regv_skip (s1 := ?_) ?_ ?_ ?_
                rotate_left
                · simp [a, b, e, d, f, g, i, j, m, k, q, o, u, v, w, ab, aa, z, y, ac, ad, ai, ag, af, ae, aj, ak]; done
                · simp [a, b, e, d, f, g, i, j, m, k, q, o, u, v, w, ab, aa, z, y, ac, ad, ai, ag, af, ae, aj, ak]; rfl
                refine regv_skip (s1 := ?_) ?_ ?_ ?_
                rotate_left
                · simp [a, b, e, d, f, g, i, j, m, k, q, o, u, v, w, ab, aa, z, y, ac, ad, ai, ag, af, ae, aj, ak]; done
                · simp [a, b, e, d, f, g, i, j, m, k, q, o, u, v, w, ab, aa, z, y, ac, ad, ai, ag, af, ae, aj, ak]; rfl
                refine regv_skip (s1 := ?_) ?_ ?_ ?_
                rotate_left
                · simp [a, b, e, d, f, g, i, j, m, k, q, o, u, v, w, ab, aa, z, y, ac, ad, ai, ag, af, ae, aj, ak]; done
                · simp [a, b, e, d, f, g, i, j, m, k, q, o, u, v, w, ab, aa, z, y, ac, ad, ai, ag, af, ae, aj, ak]; rfl
                refine regv_skip (s1 := ?_) ?_ ?_ ?_
                rotate_left
                · simp [a, b, e, d, f, g, i, j, m, k, q, o, u, v, w, ab, aa, z, y, ac, ad, ai, ag, af, ae, aj, ak]; done
                · simp [a, b, e, d, f, g, i, j, m, k, q, o, u, v, w, ab, aa, z, y, ac, ad, ai, ag, af, ae, aj, ak]; rfl
                iterate 2
                  refine regv_pure (s1 := ?_) rfl rfl ?_ ?_ ?_
                  rotate_left
                  · simp [a, b, e, d, f, g, i, j, m, k, q, o, u, v, w, ab, aa, z, y, ac, ad, ai, ag, af, ae, aj, ak]; rfl
                  · first | (simp [a, b, e, d, f, g, i, j, m, k, q, o, u, v, w, ab, aa, z, y, ac, ad, ai, ag, af, ae, aj, ak] <;> omega) | (have hq := ak; simp at hq; simp [a, b, e, d, f, g, i, j, m, k, q, o, u, v, w, ab, aa, z, y, ac, ad, ai, ag, af, ae, aj, ak, hq]; done) | skip
                refine regv_skip (s1 := ?_) ?_ ?_ ?_
                rotate_left
                · simp [a, b, e, d, f, g, i, j, m, k, q, o, u, v, w, ab, aa, z, y, ac, ad, ai, ag, af, ae, aj, ak]; done
                · simp [a, b, e, d, f, g, i, j, m, k, q, o, u, v, w, ab, aa, z, y, ac, ad, ai, ag, af, ae, aj, ak]; rfl
                refine regv_skip (s1 := ?_) ?_ ?_ ?_
                rotate_left
                · simp [a, b, e, d, f, g, i, j, m, k, q, o, u, v, w, ab, aa, z, y, ac, ad, ai, ag, af, ae, aj, ak]; done
                · simp [a, b, e, d, f, g, i, j, m, k, q, o, u, v, w, ab, aa, z, y, ac, ad, ai, ag, af, ae, aj, ak]; rfl
                refine regv_skip (s1 := ?_) ?_ ?_ ?_
                rotate_left
                · simp [a, b, e, d, f, g, i, j, m, k, q, o, u, v, w, ab, aa, z, y, ac, ad, ai, ag, af, ae, aj, ak]; done
                · simp [a, b, e, d, f, g, i, j, m, k, q, o, u, v, w, ab, aa, z, y, ac, ad, ai, ag, af, ae, aj, ak]; rfl
                refine regv_skip (s1 := ?_) ?_ ?_ ?_
                rotate_left
                · simp [a, b, e, d, f, g, i, j, m, k, q, o, u, v, w, ab, aa, z, y, ac, ad, ai, ag, af, ae, aj, ak]; done
                · simp [a, b, e, d, f, g, i, j, m, k, q, o, u, v, w, ab, aa, z, y, ac, ad, ai, ag, af, ae, aj, ak]; rfl
                refine regv_skip (s1 := ?_) ?_ ?_ ?_
                rotate_left
                · simp [a, b, e, d, f, g, i, j, m, k, q, o, u, v, w, ab, aa, z, y, ac, ad, ai, ag, af, ae, aj, ak]; done
                · simp [a, b, e, d, f, g, i, j, m, k, q, o, u, v, w, ab, aa, z, y, ac, ad, ai, ag, af, ae, aj, ak]; rfl
                iterate 2
                  refine regv_pure (s1 := ?_) rfl rfl ?_ ?_ ?_
                  rotate_left
                  · simp [a, b, e, d, f, g, i, j, m, k, q, o, u, v, w, ab, aa, z, y, ac, ad, ai, ag, af, ae, aj, ak]; rfl
                  · first | (simp [a, b, e, d, f, g, i, j, m, k, q, o, u, v, w, ab, aa, z, y, ac, ad, ai, ag, af, ae, aj, ak] <;> omega) | (have hq := ak; simp at hq; simp [a, b, e, d, f, g, i, j, m, k, q, o, u, v, w, ab, aa, z, y, ac, ad, ai, ag, af, ae, aj, ak, hq]; done) | skip
                refine regv_nil ?_
                cases h
                refine Wp.ret (endQ_ret0 rfl ?_)
                repeat' first | exact All2.nil | refine All2.cons ?_ ?_ | refine AvLe.tups ?_ | refine AvLe.aggs ?_
                all_goals first
                  | (exact AvLe.refl _ rfl)
                  | (exact AvLe.nil _)
                  | (exact AvLe.znil _)
                  | (exact AvLe.ghost _ rfl)
                  | (exact AvLe.zghost _ rfl)
                  | (exact AvLe.sl' rfl (by simp [a, b, e, d, f, g, i, j, m, k, q, o, u, v, w, ab, aa, z, y, ac, ad, ai, ag, af, ae, aj, ak]; done) (by simp [a, b, e, d, f, g, i, j, m, k, q, o, u, v, w, ab, aa, z, y, ac, ad, ai, ag, af, ae, aj, ak]; done))
                  | (exact AvLe.frz' rfl rfl rfl (by simp [a, b, e, d, f, g, i, j, m, k, q, o, u, v, w, ab, aa, z, y, ac, ad, ai, ag, af, ae, aj, ak]; done) (by simp [a, b, e, d, f, g, i, j, m, k, q, o, u, v, w, ab, aa, z, y, ac, ad, ai, ag, af, ae, aj, ak]; done) (by simp [a, b, e, d, f, g, i, j, m, k, q, o, u, v, w, ab, aa, z, y, ac, ad, ai, ag, af, ae, aj, ak]; done))
                  | (exact AvLe.list' (by simp [a, b, e, d, f, g, i, j, m, k, q, o, u, v, w, ab, aa, z, y, ac, ad, ai, ag, af, ae, aj, ak]; done) (by simp [a, b, e, d, f, g, i, j, m, k, q, o, u, v, w, ab, aa, z, y, ac, ad, ai, ag, af, ae, aj, ak]; done))
                  | (exact AvLe.eq (by simp [a, b, e, d, f, g, i, j, m, k, q, o, u, v, w, ab, aa, z, y, ac, ad, ai, ag, af, ae, aj, ak]; done) rfl)
              · rw [ak, if_pos rfl] at h
                refine regv_pure (s1 := ?_) rfl ?_ ?_ ?_ ?_
                rotate_left
                · simp [a, b, e, d, f, g, i, j, m, k, q, o, u, v, w, ab, aa, z, y, ac, ad, ai, ag, af, ae, aj, ak]; done
                · simp [a, b, e, d, f, g, i, j, m, k, q, o, u, v, w, ab, aa, z, y, ac, ad, ai, ag, af, ae, aj, ak]; rfl
                · first | (simp [a, b, e, d, f, g, i, j, m, k, q, o, u, v, w, ab, aa, z, y, ac, ad, ai, ag, af, ae, aj, ak] <;> omega) | (have hq := ak; simp at hq; simp [a, b, e, d, f, g, i, j, m, k, q, o, u, v, w, ab, aa, z, y, ac, ad, ai, ag, af, ae, aj, ak, hq]; done) | skip
                refine regv_pure (s1 := ?_) rfl ?_ ?_ ?_ ?_
                rotate_left
                · simp [a, b, e, d, f, g, i, j, m, k, q, o, u, v, w, ab, aa, z, y, ac, ad, ai, ag, af, ae, aj, ak]; done
                · simp [a, b, e, d, f, g, i, j, m, k, q, o, u, v, w, ab, aa, z, y, ac, ad, ai, ag, af, ae, aj, ak]; rfl
                · first | (simp [a, b, e, d, f, g, i, j, m, k, q, o, u, v, w, ab, aa, z, y, ac, ad, ai, ag, af, ae, aj, ak] <;> omega) | (have hq := ak; simp at hq; simp [a, b, e, d, f, g, i, j, m, k, q, o, u, v, w, ab, aa, z, y, ac, ad, ai, ag, af, ae, aj, ak, hq]; done) | skip
                iterate 2
                  refine regv_pure (s1 := ?_) rfl rfl ?_ ?_ ?_
                  rotate_left
                  · simp [a, b, e, d, f, g, i, j, m, k, q, o, u, v, w, ab, aa, z, y, ac, ad, ai, ag, af, ae, aj, ak]; rfl
                  · first | (simp [a, b, e, d, f, g, i, j, m, k, q, o, u, v, w, ab, aa, z, y, ac, ad, ai, ag, af, ae, aj, ak] <;> omega) | (have hq := ak; simp at hq; simp [a, b, e, d, f, g, i, j, m, k, q, o, u, v, w, ab, aa, z, y, ac, ad, ai, ag, af, ae, aj, ak, hq]; done) | skip
                cases am : (!bp)
                · rw [am, if_neg (by simp)] at h
                  refine regv_skip (s1 := ?_) ?_ ?_ ?_
                  rotate_left
                  · simp [a, b, e, d, f, g, i, j, m, k, q, o, u, v, w, ab, aa, z, y, ac, ad, ai, ag, af, ae, aj, ak, am]; done
                  · simp [a, b, e, d, f, g, i, j, m, k, q, o, u, v, w, ab, aa, z, y, ac, ad, ai, ag, af, ae, aj, ak, am]; rfl
                  refine regv_skip (s1 := ?_) ?_ ?_ ?_
                  rotate_left
                  · simp [a, b, e, d, f, g, i, j, m, k, q, o, u, v, w, ab, aa, z, y, ac, ad, ai, ag, af, ae, aj, ak, am]; done
                  · simp [a, b, e, d, f, g, i, j, m, k, q, o, u, v, w, ab, aa, z, y, ac, ad, ai, ag, af, ae, aj, ak, am]; rfl
                  refine regv_skip (s1 := ?_) ?_ ?_ ?_
                  rotate_left
                  · simp [a, b, e, d, f, g, i, j, m, k, q, o, u, v, w, ab, aa, z, y, ac, ad, ai, ag, af, ae, aj, ak, am]; done
                  · simp [a, b, e, d, f, g, i, j, m, k, q, o, u, v, w, ab, aa, z, y, ac, ad, ai, ag, af, ae, aj, ak, am]; rfl
                  refine regv_skip (s1 := ?_) ?_ ?_ ?_
                  rotate_left
                  · simp [a, b, e, d, f, g, i, j, m, k, q, o, u, v, w, ab, aa, z, y, ac, ad, ai, ag, af, ae, aj, ak, am]; done
                  · simp [a, b, e, d, f, g, i, j, m, k, q, o, u, v, w, ab, aa, z, y, ac, ad, ai, ag, af, ae, aj, ak, am]; rfl
                  iterate 2
                    refine regv_pure (s1 := ?_) rfl rfl ?_ ?_ ?_
                    rotate_left
                    · simp [a, b, e, d, f, g, i, j, m, k, q, o, u, v, w, ab, aa, z, y, ac, ad, ai, ag, af, ae, aj, ak, am]; rfl
                    · first | (simp [a, b, e, d, f, g, i, j, m, k, q, o, u, v, w, ab, aa, z, y, ac, ad, ai, ag, af, ae, aj, ak, am] <;> omega) | (have hq := am; simp at hq; simp [a, b, e, d, f, g, i, j, m, k, q, o, u, v, w, ab, aa, z, y, ac, ad, ai, ag, af, ae, aj, ak, am, hq]; done) | skip
                  refine regv_skip (s1 := ?_) ?_ ?_ ?_
                  rotate_left
                  · simp [a, b, e, d, f, g, i, j, m, k, q, o, u, v, w, ab, aa, z, y, ac, ad, ai, ag, af, ae, aj, ak, am]; done
                  · simp [a, b, e, d, f, g, i, j, m, k, q, o, u, v, w, ab, aa, z, y, ac, ad, ai, ag, af, ae, aj, ak, am]; rfl
                  refine regv_skip (s1 := ?_) ?_ ?_ ?_
                  rotate_left
                  · simp [a, b, e, d, f, g, i, j, m, k, q, o, u, v, w, ab, aa, z, y, ac, ad, ai, ag, af, ae, aj, ak, am]; done
                  · simp [a, b, e, d, f, g, i, j, m, k, q, o, u, v, w, ab, aa, z, y, ac, ad, ai, ag, af, ae, aj, ak, am]; rfl
                  refine regv_skip (s1 := ?_) ?_ ?_ ?_
                  rotate_left
                  · simp [a, b, e, d, f, g, i, j, m, k, q, o, u, v, w, ab, aa, z, y, ac, ad, ai, ag, af, ae, aj, ak, am]; done
                  · simp [a, b, e, d, f, g, i, j, m, k, q, o, u, v, w, ab, aa, z, y, ac, ad, ai, ag, af, ae, aj, ak, am]; rfl
                  refine regv_skip (s1 := ?_) ?_ ?_ ?_
                  rotate_left
                  · simp [a, b, e, d, f, g, i, j, m, k, q, o, u, v, w, ab, aa, z, y, ac, ad, ai, ag, af, ae, aj, ak, am]; done
                  · simp [a, b, e, d, f, g, i, j, m, k, q, o, u, v, w, ab, aa, z, y, ac, ad, ai, ag, af, ae, aj, ak, am]; rfl
                  refine regv_skip (s1 := ?_) ?_ ?_ ?_
                  rotate_left
                  · simp [a, b, e, d, f, g, i, j, m, k, q, o, u, v, w, ab, aa, z, y, ac, ad, ai, ag, af, ae, aj, ak, am]; done
                  · simp [a, b, e, d, f, g, i, j, m, k, q, o, u, v, w, ab, aa, z, y, ac, ad, ai, ag, af, ae, aj, ak, am]; rfl
                  iterate 2
                    refine regv_pure (s1 := ?_) rfl rfl ?_ ?_ ?_
                    rotate_left
                    · simp [a, b, e, d, f, g, i, j, m, k, q, o, u, v, w, ab, aa, z, y, ac, ad, ai, ag, af, ae, aj, ak, am]; rfl
                    · first | (simp [a, b, e, d, f, g, i, j, m, k, q, o, u, v, w, ab, aa, z, y, ac, ad, ai, ag, af, ae, aj, ak, am] <;> omega) | (have hq := am; simp at hq; simp [a, b, e, d, f, g, i, j, m, k, q, o, u, v, w, ab, aa, z, y, ac, ad, ai, ag, af, ae, aj, ak, am, hq]; done) | skip
                  refine regv_nil ?_
                  cases h
                  refine Wp.ret (endQ_ret0 rfl ?_)
                  repeat' first | exact All2.nil | refine All2.cons ?_ ?_ | refine AvLe.tups ?_ | refine AvLe.aggs ?_
                  all_goals first
                    | (exact AvLe.refl _ rfl)
                    | (exact AvLe.nil _)
                    | (exact AvLe.znil _)
                    | (exact AvLe.ghost _ rfl)
                    | (exact AvLe.zghost _ rfl)
                    | (exact AvLe.sl' rfl (by simp [a, b, e, d, f, g, i, j, m, k, q, o, u, v, w, ab, aa, z, y, ac, ad, ai, ag, af, ae, aj, ak, am]; done) (by simp [a, b, e, d, f, g, i, j, m, k, q, o, u, v, w, ab, aa, z, y, ac, ad, ai, ag, af, ae, aj, ak, am]; done))
                    | (exact AvLe.frz' rfl rfl rfl (by simp [a, b, e, d, f, g, i, j, m, k, q, o, u, v, w, ab, aa, z, y, ac, ad, ai, ag, af, ae, aj, ak, am]; done) (by simp [a, b, e, d, f, g, i, j, m, k, q, o, u, v, w, ab, aa, z, y, ac, ad, ai, ag, af, ae, aj, ak, am]; done) (by simp [a, b, e, d, f, g, i, j, m, k, q, o, u, v, w, ab, aa, z, y, ac, ad, ai, ag, af, ae, aj, ak, am]; done))
                    | (exact AvLe.list' (by simp [a, b, e, d, f, g, i, j, m, k, q, o, u, v, w, ab, aa, z, y, ac, ad, ai, ag, af, ae, aj, ak, am]; done) (by simp [a, b, e, d, f, g, i, j, m, k, q, o, u, v, w, ab, aa, z, y, ac, ad, ai, ag, af, ae, aj, ak, am]; done))
                    | (exact AvLe.eq (by simp [a, b, e, d, f, g, i, j, m, k, q, o, u, v, w, ab, aa, z, y, ac, ad, ai, ag, af, ae, aj, ak, am]; done) rfl)
                · rw [am, if_pos rfl] at h
                  refine regv_pure (s1 := ?_) rfl ?_ ?_ ?_ ?_
                  rotate_left
                  · simp [a, b, e, d, f, g, i, j, m, k, q, o, u, v, w, ab, aa, z, y, ac, ad, ai, ag, af, ae, aj, ak, am]; done
                  · simp [a, b, e, d, f, g, i, j, m, k, q, o, u, v, w, ab, aa, z, y, ac, ad, ai, ag, af, ae, aj, ak, am]; rfl
                  · first | (simp [a, b, e, d, f, g, i, j, m, k, q, o, u, v, w, ab, aa, z, y, ac, ad, ai, ag, af, ae, aj, ak, am] <;> omega) | (have hq := am; simp at hq; simp [a, b, e, d, f, g, i, j, m, k, q, o, u, v, w, ab, aa, z, y, ac, ad, ai, ag, af, ae, aj, ak, am, hq]; done) | skip
                  refine regv_pure (s1 := ?_) rfl ?_ ?_ ?_ ?_
                  rotate_left
                  · simp [a, b, e, d, f, g, i, j, m, k, q, o, u, v, w, ab, aa, z, y, ac, ad, ai, ag, af, ae, aj, ak, am]; done
                  · simp [a, b, e, d, f, g, i, j, m, k, q, o, u, v, w, ab, aa, z, y, ac, ad, ai, ag, af, ae, aj, ak, am]; rfl
                  · first | (simp [a, b, e, d, f, g, i, j, m, k, q, o, u, v, w, ab, aa, z, y, ac, ad, ai, ag, af, ae, aj, ak, am] <;> omega) | (have hq := am; simp at hq; simp [a, b, e, d, f, g, i, j, m, k, q, o, u, v, w, ab, aa, z, y, ac, ad, ai, ag, af, ae, aj, ak, am, hq]; done) | skip
                  refine regv_pure (s1 := ?_) rfl ?_ ?_ ?_ ?_
                  rotate_left
                  · simp [a, b, e, d, f, g, i, j, m, k, q, o, u, v, w, ab, aa, z, y, ac, ad, ai, ag, af, ae, aj, ak, am]; done
                  · simp [a, b, e, d, f, g, i, j, m, k, q, o, u, v, w, ab, aa, z, y, ac, ad, ai, ag, af, ae, aj, ak, am]; rfl
                  · first | (simp [a, b, e, d, f, g, i, j, m, k, q, o, u, v, w, ab, aa, z, y, ac, ad, ai, ag, af, ae, aj, ak, am] <;> omega) | (have hq := am; simp at hq; simp [a, b, e, d, f, g, i, j, m, k, q, o, u, v, w, ab, aa, z, y, ac, ad, ai, ag, af, ae, aj, ak, am, hq]; done) | skip
                  refine regv_pure (s1 := ?_) rfl ?_ ?_ ?_ ?_
                  rotate_left
                  · simp [a, b, e, d, f, g, i, j, m, k, q, o, u, v, w, ab, aa, z, y, ac, ad, ai, ag, af, ae, aj, ak, am]; done
                  · simp [a, b, e, d, f, g, i, j, m, k, q, o, u, v, w, ab, aa, z, y, ac, ad, ai, ag, af, ae, aj, ak, am]; rfl
                  · first | (simp [a, b, e, d, f, g, i, j, m, k, q, o, u, v, w, ab, aa, z, y, ac, ad, ai, ag, af, ae, aj, ak, am] <;> omega) | (have hq := am; simp at hq; simp [a, b, e, d, f, g, i, j, m, k, q, o, u, v, w, ab, aa, z, y, ac, ad, ai, ag, af, ae, aj, ak, am, hq]; done) | skip
                  iterate 2
                    refine regv_pure (s1 := ?_) rfl rfl ?_ ?_ ?_
                    rotate_left
                    · simp [a, b, e, d, f, g, i, j, m, k, q, o, u, v, w, ab, aa, z, y, ac, ad, ai, ag, af, ae, aj, ak, am]; rfl
                    · first | (simp [a, b, e, d, f, g, i, j, m, k, q, o, u, v, w, ab, aa, z, y, ac, ad, ai, ag, af, ae, aj, ak, am] <;> omega) | (have hq := am; simp at hq; simp [a, b, e, d, f, g, i, j, m, k, q, o, u, v, w, ab, aa, z, y, ac, ad, ai, ag, af, ae, aj, ak, am, hq]; done) | skip
                  cases ao : ((bo.Q.length : Int) == 1)
                  · rw [ao, if_neg (by simp)] at h
                    refine regv_skip (s1 := ?_) ?_ ?_ ?_
                    rotate_left
                    · simp [a, b, e, d, f, g, i, j, m, k, q, o, u, v, w, ab, aa, z, y, ac, ad, ai, ag, af, ae, aj, ak, am, ao]; done
                    · simp [a, b, e, d, f, g, i, j, m, k, q, o, u, v, w, ab, aa, z, y, ac, ad, ai, ag, af, ae, aj, ak, am, ao]; rfl
                    refine regv_skip (s1 := ?_) ?_ ?_ ?_
                    rotate_left
                    · simp [a, b, e, d, f, g, i, j, m, k, q, o, u, v, w, ab, aa, z, y, ac, ad, ai, ag, af, ae, aj, ak, am, ao]; done
                    · simp [a, b, e, d, f, g, i, j, m, k, q, o, u, v, w, ab, aa, z, y, ac, ad, ai, ag, af, ae, aj, ak, am, ao]; rfl
                    refine regv_skip (s1 := ?_) ?_ ?_ ?_
                    rotate_left
                    · simp [a, b, e, d, f, g, i, j, m, k, q, o, u, v, w, ab, aa, z, y, ac, ad, ai, ag, af, ae, aj, ak, am, ao]; done
                    · simp [a, b, e, d, f, g, i, j, m, k, q, o, u, v, w, ab, aa, z, y, ac, ad, ai, ag, af, ae, aj, ak, am, ao]; rfl
                    refine regv_skip (s1 := ?_) ?_ ?_ ?_
                    rotate_left
                    · simp [a, b, e, d, f, g, i, j, m, k, q, o, u, v, w, ab, aa, z, y, ac, ad, ai, ag, af, ae, aj, ak, am, ao]; done
                    · simp [a, b, e, d, f, g, i, j, m, k, q, o, u, v, w, ab, aa, z, y, ac, ad, ai, ag, af, ae, aj, ak, am, ao]; rfl
                    refine regv_skip (s1 := ?_) ?_ ?_ ?_
                    rotate_left
                    · simp [a, b, e, d, f, g, i, j, m, k, q, o, u, v, w, ab, aa, z, y, ac, ad, ai, ag, af, ae, aj, ak, am, ao]; done
                    · simp [a, b, e, d, f, g, i, j, m, k, q, o, u, v, w, ab, aa, z, y, ac, ad, ai, ag, af, ae, aj, ak, am, ao]; rfl
                    iterate 2
                      refine regv_pure (s1 := ?_) rfl rfl ?_ ?_ ?_
                      rotate_left
                      · simp [a, b, e, d, f, g, i, j, m, k, q, o, u, v, w, ab, aa, z, y, ac, ad, ai, ag, af, ae, aj, ak, am, ao]; rfl
                      · first | (simp [a, b, e, d, f, g, i, j, m, k, q, o, u, v, w, ab, aa, z, y, ac, ad, ai, ag, af, ae, aj, ak, am, ao] <;> omega) | (have hq := ao; simp at hq; simp [a, b, e, d, f, g, i, j, m, k, q, o, u, v, w, ab, aa, z, y, ac, ad, ai, ag, af, ae, aj, ak, am, ao, hq]; done) | skip
                    refine regv_nil ?_
                    cases h
                    refine Wp.ret (endQ_ret0 rfl ?_)
                    repeat' first | exact All2.nil | refine All2.cons ?_ ?_ | refine AvLe.tups ?_ | refine AvLe.aggs ?_
                    all_goals first
                      | (exact AvLe.refl _ rfl)
                      | (exact AvLe.nil _)
                      | (exact AvLe.znil _)
                      | (exact AvLe.ghost _ rfl)
                      | (exact AvLe.zghost _ rfl)
                      | (exact AvLe.sl' rfl (by simp [a, b, e, d, f, g, i, j, m, k, q, o, u, v, w, ab, aa, z, y, ac, ad, ai, ag, af, ae, aj, ak, am, ao]; done) (by simp [a, b, e, d, f, g, i, j, m, k, q, o, u, v, w, ab, aa, z, y, ac, ad, ai, ag, af, ae, aj, ak, am, ao]; done))
                      | (exact AvLe.frz' rfl rfl rfl (by simp [a, b, e, d, f, g, i, j, m, k, q, o, u, v, w, ab, aa, z, y, ac, ad, ai, ag, af, ae, aj, ak, am, ao]; done) (by simp [a, b, e, d, f, g, i, j, m, k, q, o, u, v, w, ab, aa, z, y, ac, ad, ai, ag, af, ae, aj, ak, am, ao]; done) (by simp [a, b, e, d, f, g, i, j, m, k, q, o, u, v, w, ab, aa, z, y, ac, ad, ai, ag, af, ae, aj, ak, am, ao]; done))
                      | (exact AvLe.list' (by simp [a, b, e, d, f, g, i, j, m, k, q, o, u, v, w, ab, aa, z, y, ac, ad, ai, ag, af, ae, aj, ak, am, ao]; done) (by simp [a, b, e, d, f, g, i, j, m, k, q, o, u, v, w, ab, aa, z, y, ac, ad, ai, ag, af, ae, aj, ak, am, ao]; done))
                      | (exact AvLe.eq (by simp [a, b, e, d, f, g, i, j, m, k, q, o, u, v, w, ab, aa, z, y, ac, ad, ai, ag, af, ae, aj, ak, am, ao]; done) rfl)
                  · rw [ao, if_pos rfl] at h
                    refine regv_pure (s1 := ?_) rfl ?_ ?_ ?_ ?_
                    rotate_left
                    · simp [a, b, e, d, f, g, i, j, m, k, q, o, u, v, w, ab, aa, z, y, ac, ad, ai, ag, af, ae, aj, ak, am, ao]; done
                    · simp [a, b, e, d, f, g, i, j, m, k, q, o, u, v, w, ab, aa, z, y, ac, ad, ai, ag, af, ae, aj, ak, am, ao]; rfl
                    · first | (simp [a, b, e, d, f, g, i, j, m, k, q, o, u, v, w, ab, aa, z, y, ac, ad, ai, ag, af, ae, aj, ak, am, ao] <;> omega) | (have hq := ao; simp at hq; simp [a, b, e, d, f, g, i, j, m, k, q, o, u, v, w, ab, aa, z, y, ac, ad, ai, ag, af, ae, aj, ak, am, ao, hq]; done) | skip
                    refine regv_pure (s1 := ?_) rfl ?_ ?_ ?_ ?_
                    rotate_left
                    · simp [a, b, e, d, f, g, i, j, m, k, q, o, u, v, w, ab, aa, z, y, ac, ad, ai, ag, af, ae, aj, ak, am, ao]; done
                    · simp [a, b, e, d, f, g, i, j, m, k, q, o, u, v, w, ab, aa, z, y, ac, ad, ai, ag, af, ae, aj, ak, am, ao]; rfl
                    · first | (simp [a, b, e, d, f, g, i, j, m, k, q, o, u, v, w, ab, aa, z, y, ac, ad, ai, ag, af, ae, aj, ak, am, ao] <;> omega) | (have hq := ao; simp at hq; simp [a, b, e, d, f, g, i, j, m, k, q, o, u, v, w, ab, aa, z, y, ac, ad, ai, ag, af, ae, aj, ak, am, ao, hq]; done) | skip
                    obtain ⟨ce, bj, h⟩ := obind h
                    obtain ⟨av, au, aq⟩ := atI_some bj
                    try simp [a, b, e, d, f, g, i, j, m, k, q, o, u, v, w, ab, aa, z, y, ac, ad, ai, ag, af, ae, aj, ak, am, ao] at au
                    try simp only [Int.toNat_natCast, Int.reduceToNat, Nat.zero_add, Nat.add_zero] at aq
                    have ap := getElem_of aq
                    refine regv_pure (s1 := ?_) rfl ?_ ?_ ?_ ?_
                    rotate_left
                    · simp [a, b, e, d, f, g, i, j, m, k, q, o, u, v, w, ab, aa, z, y, ac, ad, ai, ag, af, ae, aj, ak, am, ao, av, au, aq, ap]; done
                    · simp [a, b, e, d, f, g, i, j, m, k, q, o, u, v, w, ab, aa, z, y, ac, ad, ai, ag, af, ae, aj, ak, am, ao, av, au, aq, ap]; rfl
                    · first | (simp [a, b, e, d, f, g, i, j, m, k, q, o, u, v, w, ab, aa, z, y, ac, ad, ai, ag, af, ae, aj, ak, am, ao, av, au, aq, ap] <;> omega) | (have hq := ap; simp at hq; simp [a, b, e, d, f, g, i, j, m, k, q, o, u, v, w, ab, aa, z, y, ac, ad, ai, ag, af, ae, aj, ak, am, ao, av, au, aq, ap, hq]; done) | skip
                    refine regv_pure (s1 := ?_) rfl ?_ ?_ ?_ ?_
                    rotate_left
                    · simp [a, b, e, d, f, g, i, j, m, k, q, o, u, v, w, ab, aa, z, y, ac, ad, ai, ag, af, ae, aj, ak, am, ao, av, au, aq, ap]; done
                    · simp [a, b, e, d, f, g, i, j, m, k, q, o, u, v, w, ab, aa, z, y, ac, ad, ai, ag, af, ae, aj, ak, am, ao, av, au, aq, ap]; rfl
                    · first | (simp [a, b, e, d, f, g, i, j, m, k, q, o, u, v, w, ab, aa, z, y, ac, ad, ai, ag, af, ae, aj, ak, am, ao, av, au, aq, ap] <;> omega) | (have hq := ap; simp at hq; simp [a, b, e, d, f, g, i, j, m, k, q, o, u, v, w, ab, aa, z, y, ac, ad, ai, ag, af, ae, aj, ak, am, ao, av, au, aq, ap, hq]; done) | skip
                    refine regv_pure (s1 := ?_) rfl ?_ ?_ ?_ ?_
                    rotate_left
                    · simp [a, b, e, d, f, g, i, j, m, k, q, o, u, v, w, ab, aa, z, y, ac, ad, ai, ag, af, ae, aj, ak, am, ao, av, au, aq, ap]; done
                    · simp [a, b, e, d, f, g, i, j, m, k, q, o, u, v, w, ab, aa, z, y, ac, ad, ai, ag, af, ae, aj, ak, am, ao, av, au, aq, ap]; rfl
                    · first | (simp [a, b, e, d, f, g, i, j, m, k, q, o, u, v, w, ab, aa, z, y, ac, ad, ai, ag, af, ae, aj, ak, am, ao, av, au, aq, ap] <;> omega) | (have hq := ap; simp at hq; simp [a, b, e, d, f, g, i, j, m, k, q, o, u, v, w, ab, aa, z, y, ac, ad, ai, ag, af, ae, aj, ak, am, ao, av, au, aq, ap, hq]; done) | skip
                    iterate 2
                      refine regv_pure (s1 := ?_) rfl rfl ?_ ?_ ?_
                      rotate_left
                      · simp [a, b, e, d, f, g, i, j, m, k, q, o, u, v, w, ab, aa, z, y, ac, ad, ai, ag, af, ae, aj, ak, am, ao, av, au, aq, ap]; rfl
                      · first | (simp [a, b, e, d, f, g, i, j, m, k, q, o, u, v, w, ab, aa, z, y, ac, ad, ai, ag, af, ae, aj, ak, am, ao, av, au, aq, ap] <;> omega) | (have hq := ap; simp at hq; simp [a, b, e, d, f, g, i, j, m, k, q, o, u, v, w, ab, aa, z, y, ac, ad, ai, ag, af, ae, aj, ak, am, ao, av, au, aq, ap, hq]; done) | skip
                    refine regv_nil ?_
                    cases h
                    refine Wp.ret (endQ_ret0 rfl ?_)
                    repeat' first | exact All2.nil | refine All2.cons ?_ ?_ | refine AvLe.tups ?_ | refine AvLe.aggs ?_
                    all_goals first
                      | (exact AvLe.refl _ rfl)
                      | (exact AvLe.nil _)
                      | (exact AvLe.znil _)
                      | (exact AvLe.ghost _ rfl)
                      | (exact AvLe.zghost _ rfl)
                      | (exact AvLe.sl' rfl (by simp [a, b, e, d, f, g, i, j, m, k, q, o, u, v, w, ab, aa, z, y, ac, ad, ai, ag, af, ae, aj, ak, am, ao, av, au, aq, ap]; done) (by simp [a, b, e, d, f, g, i, j, m, k, q, o, u, v, w, ab, aa, z, y, ac, ad, ai, ag, af, ae, aj, ak, am, ao, av, au, aq, ap]; done))
                      | (exact AvLe.frz' rfl rfl rfl (by simp [a, b, e, d, f, g, i, j, m, k, q, o, u, v, w, ab, aa, z, y, ac, ad, ai, ag, af, ae, aj, ak, am, ao, av, au, aq, ap]; done) (by simp [a, b, e, d, f, g, i, j, m, k, q, o, u, v, w, ab, aa, z, y, ac, ad, ai, ag, af, ae, aj, ak, am, ao, av, au, aq, ap]; done) (by simp [a, b, e, d, f, g, i, j, m, k, q, o, u, v, w, ab, aa, z, y, ac, ad, ai, ag, af, ae, aj, ak, am, ao, av, au, aq, ap]; done))
                      | (exact AvLe.list' (by simp [a, b, e, d, f, g, i, j, m, k, q, o, u, v, w, ab, aa, z, y, ac, ad, ai, ag, af, ae, aj, ak, am, ao, av, au, aq, ap]; done) (by simp [a, b, e, d, f, g, i, j, m, k, q, o, u, v, w, ab, aa, z, y, ac, ad, ai, ag, af, ae, aj, ak, am, ao, av, au, aq, ap]; done))
                      | (exact AvLe.eq (by simp [a, b, e, d, f, g, i, j, m, k, q, o, u, v, w, ab, aa, z, y, ac, ad, ai, ag, af, ae, aj, ak, am, ao, av, au, aq, ap]; done) rfl)

end Go.Proofs.Ytgbgmijighbfbaa

/- Contracts: models of functions are right. No law is proved here. -/
import Derived.Test.YtaebdeidbibfkaaDoorGMod
import Derived.Test.YtaebdeidbibfkaaDoorTab
import Derived.Test.YtaebdeidbibfkaaDoorGC11
import Derived.Test.YtaebdeidbibfkaaDoorGC19
namespace Go.Proofs.YtaebdeidbibfkaaDoor
open Go.Av Go.G
attribute [-simp] Int.natCast_tdiv_eq_ediv
attribute [local simp] runf guardA opf St.ev Go.Av.look St.setd constAV constAV0 opBin opLen intBin St.need lookT TT0 tab resA resOne resAll blt_dec ble_dec beq_dec isPure
attribute [local simp] opMakeSlice opCopy opIndexAddr opLoad opStore St.mem St.rows opUn calleeA toArgs toArg toArg0 toArgs0 shift shift0 shift1 splice cellsOf isFree ofCells TS.isAgg isCell strBin opConvert
attribute [local simp] opSlice3 opClear fz_clear opBuildSlice fillA opAppend eqC eqA cksB ckB St.newBox runI valKind withinB readsHp refsD refs noSl opFieldAddr opBuild opMax opMin placeOf Op.operands Call.operands opIndex opExtract opSlice opField partA
attribute [local simp] loA hiA lenA opMakeMap opLookup opMapUpdate keyOk findA_int findA_str findA_bool putA_strB putA_strI putA_strS putA_intB putA_intI putA_intS putA_boolI putA_boolB mAV_length mAV_nil cA1 cA2 cA3 cA4 opNilCheck opMakeFunc opRange
attribute [local simp] aL cI cB cS cL rw_map fz_rw fz_const dropRow_rw fz_append fz_set fz_copy fz_rows rowLen_rw rowsLen_nil rowsLen_cons rowsLen_append rowsLen_map rowsLen_dm rowsLen_tm rowsLen_take rowsLen_drop rowsLen_replicate take_map_len take_map_le drop_map_len take_drop_len chunks isScalar isScalar0
attribute [local simp] putBack putAt objMap mapC mapA mapT map0 bid rid memB passed closedB argsH argH argH0 argsH0 objIds ids0 idsC isLocT isLocA isLocC isLoc0 LocObj
attribute [local congr] bind_congr1 map_congr1 cond_congr1
attribute [local simp] cApiAddr cApiContact cApiCoil cApiRung cApiIns cApiLadder cApiSize cApiProgram cReducePair cReduceEdge cTreeTree_eq TreeTree_Kind_mk TreeTree_N_mk TreeTree_Kids_mk eta_TreeTree
set_option maxHeartbeats 4000000
set_option maxRecDepth 20000
set_option linter.unusedSimpArgs false
set_option linter.unusedVariables false

theorem boolI0_law17_CodegenWithoutPush (kv : IntKind) (k : Bool) (v : Int) : putA (.bool k) (.int kv v) [] = mAV AV.bool (cI kv) (mPut [] k v) := rfl
attribute [local simp] boolI0_law17_CodegenWithoutPush
theorem con_law17_CodegenWithoutPush {n : Nat} {_append0 : List Int} {a1 : Bool} {r : Bool} (h : law17_CodegenWithoutPush n _append0 a1 = some r) : Con Tryd.prog G0 5 [aL (cI .u8) _append0, .bool a1] (.bool r) [] := by
  refine con_of (T := TT0) tt_ok Tryd.func5 (c := _) (by unfold Tryd.f5; rfl) Tryd.ntmps5 (rs := [.tmp 4]) (by rw [Tryd.results5]) (by unfold Tryd.f5; rfl) (by simp) ?_
  simp only [argsCh]
  have F := True.intro
  dsimp only [law17_CodegenWithoutPush] at h
  refine rs0 ?_
  refine vp ?_
  refine vn ?_
  refine Wp.seq ?_
  refine rs0 ?_
  iterate 4 refine vp ?_
  refine sD h F (fun F h => ?_) fun F h => ?_
  refine vg ?_
  refine vg ?_
  refine vg ?_
  refine vp ?_
  refine vn ?_
  refine sD h F (fun F h => ?_) fun F h => ?_
  refine cF ?_
  refine Wp.skip ?_
  refine sh ?_
  refine rs0 ?_
  iterate 9 refine vp ?_
  refine vn ?_
  refine rs0 ?_
  iterate 3 refine vp ?_
  refine vn ?_
  refine jn (fun x : (List TreeTree) × (List ApiContact) => { ch := [(0, aL (cI .u8) _append0), (1, .bool a1), (5, .hptr 0 0 0), (6, .hptr 1 0 0)], hp := [.var [.int .i64 ((mGet (mPut (mPut ([]) false 1) true 2) a1).getD 0), .int .i64 0, .sl 2 0 x.1.length], .var [.str (⟨#[]⟩ : Str), .sl 3 0 x.2.length, .nilsl, .str (⟨#[]⟩ : Str)], .arr 3 x.1.length (rw (x.1.map cTreeTree)), .arr 5 x.2.length (rw (x.2.map cApiContact))], base := 0, n := 101, cond := True, gl := G0 }) (fun x => law17_CodegenWithoutPush_J1 n _append0 a1 x.1 x.2 = some r) ?_ ?_
  clear h
  rintro ⟨p47262, p47263⟩ h
  dsimp only [law17_CodegenWithoutPush_J1] at h
  try dsimp only
  refine rs0 ?_
  iterate 2 refine vp ?_
  refine vl [some 0, some 1, some 2, none] { ch := [(0, aL (cI .u8) _append0), (1, .bool a1), (5, .hptr 0 0 0), (6, .hptr 1 0 0), (56, .agg [.str (⟨#[]⟩ : Str), aL cApiContact p47263, .nilsl, .str (⟨#[]⟩ : Str)]), (57, .agg [.int .i64 ((mGet (mPut (mPut ([]) false 1) true 2) a1).getD 0), .int .i64 0, .sl 2 0 p47262.length])], hp := [.var [.int .i64 ((mGet (mPut (mPut ([]) false 1) true 2) a1).getD 0), .int .i64 0, .sl 2 0 p47262.length], .var [.str (⟨#[]⟩ : Str), aL cApiContact p47263, .nilsl, .str (⟨#[]⟩ : Str)], .arr 3 p47262.length (rw (p47262.map cTreeTree)), .dead], base := 0, n := 101, cond := True, gl := G0 } ?_
  refine vl [some 0, some 1, none, some 3] { ch := [(0, aL (cI .u8) _append0), (1, .bool a1), (5, .hptr 0 0 0), (6, .hptr 1 0 0), (56, .agg [.str (⟨#[]⟩ : Str), aL cApiContact p47263, .nilsl, .str (⟨#[]⟩ : Str)]), (57, .agg [.int .i64 ((mGet (mPut (mPut ([]) false 1) true 2) a1).getD 0), .int .i64 0, aL cTreeTree p47262])], hp := [.var [.int .i64 ((mGet (mPut (mPut ([]) false 1) true 2) a1).getD 0), .int .i64 0, aL cTreeTree p47262], .var [.str (⟨#[]⟩ : Str), aL cApiContact p47263, .nilsl, .str (⟨#[]⟩ : Str)], .dead, .dead], base := 0, n := 101, cond := True, gl := G0 } ?_
  obtain ⟨⟨r47265, r47266⟩, hr47264, h⟩ := obind h
  dsimp only at h
  refine vc (con_codegen_Tree hr47264) ?_
  iterate 5 refine vp ?_
  refine vn ?_
  refine Wp.seq ?_
  refine rs0 ?_
  iterate 3 refine vp ?_
  refine sB h F (fun F h => ?_) fun F h => ?_
  refine vg ?_
  refine vg ?_
  refine vg ?_
  refine vg ?_
  refine vg ?_
  refine vp ?_
  refine vn ?_
  refine sB h F (fun F h => ?_) fun F h => ?_
  refine cF ?_
  refine Wp.skip ?_
  refine sh ?_
  refine Wp.seq ?_
  refine rs0 ?_
  iterate 3 refine vp ?_
  refine vn ?_
  refine Wp.block ?_
  refine lp [] (fun p47273 : Int => { ch := [(0, aL (cI .u8) _append0), (1, .bool a1), (70, aL cApiIns r47265), (71, .int .i64 (r47265.length : Int)), (72, .int .i64 p47273)], hp := [], base := 0, n := 101, cond := True, gl := G0 }) (fun m x => law17_CodegenWithoutPush_L2 n _append0 a1 r47265 m x = some r) n 0 h ?_
  rintro rec_n2 p47273 h
  dsimp only [law17_CodegenWithoutPush_L2] at h
  try dsimp only
  refine rs0 ?_
  refine vp ?_
  refine vn ?_
  refine Wp.seq ?_
  refine sD h F (fun F h => ?_) fun F h => ?_
  refine cF ?_
  refine Wp.exit ?_
  refine sh ?_
  refine rs0 ?_
  obtain ⟨r47285, hr47284, h⟩ := obind h
  refine vc (con_law17_alive hr47284) ?_
  refine vp ?_
  refine vn ?_
  cases h
  exact Wp.ret en0
  refine cT ?_
  refine Wp.skip ?_
  refine sh ?_
  refine Wp.seq ?_
  refine Wp.block ?_
  refine rs0 ?_
  refine vp ?_
  refine eI h F fun x47282 F h => ?_
  iterate 5 refine vp ?_
  refine vn ?_
  refine rs0 ?_
  iterate 2 refine vp ?_
  refine eI h F fun x47283 F h => ?_
  iterate 9 refine vp ?_
  refine vn ?_
  refine Wp.seq ?_
  refine rs0 ?_
  iterate 2 refine vp ?_
  refine vn ?_
  refine sD h F (fun F h => ?_) fun F h => ?_
  refine cF ?_
  refine Wp.skip ?_
  refine sh ?_
  refine rs0 ?_
  iterate 3 refine vp ?_
  refine vn ?_
  refine sB h F (fun F h => ?_) fun F h => ?_
  refine cF ?_
  refine Wp.skip ?_
  refine sh ?_
  refine rg0 ?_
  iterate 2 refine vp ?_
  refine vn ?_
  exact nx [] (IntKind.i64.wrap (p47273 + 1)) h
  refine cT ?_
  refine rs0 ?_
  refine vp ?_
  refine vn ?_
  cases h
  exact Wp.ret en0
  refine cT ?_
  refine rg0 ?_
  iterate 11 refine vp ?_
  refine vn ?_
  refine sh ?_
  refine rs0 ?_
  iterate 3 refine vp ?_
  refine vn ?_
  refine sB h F (fun F h => ?_) fun F h => ?_
  refine cF ?_
  refine Wp.skip ?_
  refine sh ?_
  refine rg0 ?_
  iterate 2 refine vp ?_
  refine vn ?_
  exact nx [] (IntKind.i64.wrap (p47273 + 1)) h
  refine cT ?_
  refine rs0 ?_
  refine vp ?_
  refine vn ?_
  cases h
  exact Wp.ret en0
  refine cT ?_
  refine rs0 ?_
  refine vp ?_
  refine vn ?_
  cases h
  exact Wp.ret en0
  refine vs ?_
  refine vs ?_
  refine vs ?_
  refine vs ?_
  refine vs ?_
  refine vp ?_
  refine vn ?_
  refine cT ?_
  refine rs0 ?_
  refine vp ?_
  refine vn ?_
  cases h
  exact Wp.ret en0
  refine rs0 ?_
  iterate 3 refine vp ?_
  refine vn ?_
  refine Wp.block ?_
  refine lp [some 1, some 2, none, none] (fun x : Int × (List TreeTree) × (List ApiContact) => { ch := [(0, aL (cI .u8) _append0), (1, .bool a1), (5, .hptr 0 0 0), (6, .hptr 1 0 0), (29, aL (cI .u8) _append0), (30, .int .i64 (_append0.length : Int)), (31, .int .i64 x.1)], hp := [.var [.int .i64 ((mGet (mPut (mPut ([]) false 1) true 2) a1).getD 0), .int .i64 0, .sl 2 0 x.2.1.length], .var [.str (⟨#[]⟩ : Str), .sl 3 0 x.2.2.length, .nilsl, .str (⟨#[]⟩ : Str)], .arr 3 x.2.1.length (rw (x.2.1.map cTreeTree)), .arr 5 x.2.2.length (rw (x.2.2.map cApiContact))], base := 0, n := 101, cond := True, gl := G0 }) (fun m x => law17_CodegenWithoutPush_L3 n _append0 a1 m x.1 x.2.1 x.2.2 = some r) n (0, [], []) h ?_
  rintro rec_n3 ⟨p47289, p47290, p47291⟩ h
  dsimp only [law17_CodegenWithoutPush_L3] at h
  try dsimp only
  refine rs0 ?_
  refine vp ?_
  refine vn ?_
  refine Wp.seq ?_
  refine sD h F (fun F h => ?_) fun F h => ?_
  refine cF ?_
  refine Wp.exit ?_
  exact nx [some 0, some 1, some 2, some 3] (p47290, p47291) h
  refine cT ?_
  refine Wp.skip ?_
  refine sh ?_
  refine Wp.seq ?_
  refine Wp.block ?_
  refine rs0 ?_
  refine vp ?_
  refine eI h F fun x47295 F h => ?_
  iterate 4 refine vp ?_
  refine vn ?_
  refine rs (fun d => Nat.beq d 41) ?_
  iterate 4 refine vp ?_
  refine vl [some 0, some 1, some 2, some 3] { ch := [(0, aL (cI .u8) _append0), (1, .bool a1), (5, .hptr 0 0 0), (6, .hptr 1 0 0), (7, .int .i64 p47289), (8, .int .u8 x47295), (29, aL (cI .u8) _append0), (30, .int .i64 (_append0.length : Int)), (31, .int .i64 p47289), (32, .bool (decide (p47289 < (_append0.length : Int)))), (33, .int .i64 p47289), (34, .fptr [.int .u8 x47295]), (35, .int .u8 x47295), (36, .hptr 0 0 2), (37, .sl 2 0 p47290.length), (38, .int .i64 p47289), (39, .agg [.int .i64 0, .int .i64 p47289, aL cTreeTree ([] : List TreeTree)])], hp := [.var [.int .i64 ((mGet (mPut (mPut ([]) false 1) true 2) a1).getD 0), .int .i64 0, .sl 2 0 p47290.length], .var [.str (⟨#[]⟩ : Str), .sl 3 0 p47291.length, .nilsl, .str (⟨#[]⟩ : Str)], .arr 3 p47290.length (rw (p47290.map cTreeTree)), .arr 5 p47291.length (rw (p47291.map cApiContact))], base := 0, n := 101, cond := True, gl := G0 } ?_
  refine vp ?_
  refine gd h F fun F h => ?_
  refine vp ?_
  refine nm cTreeTree h F fun l47296 F h => ?_
  iterate 2 refine vp ?_
  refine vn ?_
  refine rg (fun d => Nat.beq d 52) ?_
  iterate 9 refine vp ?_
  refine gd h F fun F h => ?_
  refine vp ?_
  refine nm cApiContact h F fun l47297 F h => ?_
  iterate 2 refine vp ?_
  refine vn ?_
  refine sh ?_
  refine rg0 ?_
  iterate 2 refine vp ?_
  refine vn ?_
  exact nx [some 0, some 1, some 4, some 5] ((IntKind.i64.wrap (p47289 + 1)), l47296, l47297) h
  refine cT ?_
  refine rs0 ?_
  obtain ⟨r47249, hr47248, h⟩ := obind h
  refine vc (con_law17_alive hr47248) ?_
  refine vp ?_
  refine vn ?_
  cases h
  exact Wp.ret en0
  refine vs ?_
  refine vs ?_
  refine vs ?_
  refine vp ?_
  refine vn ?_
  refine cT ?_
  refine rs0 ?_
  obtain ⟨r47247, hr47246, h⟩ := obind h
  refine vc (con_law17_alive hr47246) ?_
  refine vp ?_
  refine vn ?_
  cases h
  exact Wp.ret en0

end Go.Proofs.YtaebdeidbibfkaaDoor

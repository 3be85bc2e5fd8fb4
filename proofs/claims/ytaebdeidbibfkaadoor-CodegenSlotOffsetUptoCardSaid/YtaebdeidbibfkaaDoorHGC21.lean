/- Contracts: models of functions are right. No law is proved here. -/
import Derived.Test.YtaebdeidbibfkaaDoorHGMod
import Derived.Test.YtaebdeidbibfkaaDoorHTah
import Derived.Test.YtaebdeidbibfkaaDoorHSo
import Derived.Test.YtaebdeidbibfkaaDoorHGC1
import Derived.Test.YtaebdeidbibfkaaDoorHGC12
import Derived.Test.YtaebdeidbibfkaaDoorHGC16
import Derived.Test.YtaebdeidbibfkaaDoorHGC20
namespace Go.Proofs.YtaebdeidbibfkaaDoor
open Go.Av Go.G
attribute [-simp] Int.natCast_tdiv_eq_ediv
attribute [local simp] runf guardA opf St.ev Go.Av.look St.setd constAV constAV0 opBin opLen intBin St.need lookT TT0 tab resA resOne resAll blt_dec ble_dec beq_dec isPure
attribute [local simp] opMakeSlice opCopy opIndexAddr opLoad opStore St.mem St.rows opUn calleeA toArgs toArg toArg0 toArgs0 shift shift0 shift1 splice cellsOf isFree ofCells TS.isAgg isCell strBin opConvert
attribute [local simp] opSlice3 opClear fz_clear opBuildSlice fillA opAppend eqC eqA cksB ckB St.newBox runI valKind withinB readsHp refsD refs noSl opFieldAddr opBuild opMax opMin placeOf Op.operands Call.operands opIndex opExtract opSlice opField partA
attribute [local simp] loA hiA lenA opMakeMap opLookup opMapUpdate keyOk findA_int findA_str findA_bool putA_strB putA_strI putA_strS putA_intB putA_intI putA_intS putA_boolI putA_boolB mAV_length mAV_nil cA1 cA2 cA3 cA4 opNilCheck opMakeFunc opRange
attribute [local simp] aL cI cB cS cL rw_map fz_rw fz_const dropRow_rw fz_append fz_set fz_copy fz_rows rowLen_rw rowsLen_nil rowsLen_cons rowsLen_append rowsLen_map rowsLen_dm rowsLen_tm rowsLen_take rowsLen_drop rowsLen_replicate take_map_len take_map_le drop_map_len take_drop_len chunks isScalar isScalar0
attribute [local simp] putBack putAt objMap mapC mapA mapT map0 bid rid memB passed closedB argsH argH argH0 argsH0 objIds ids0 idsC isLocT isLocA isLocC isLoc0 LocObj
attribute [local congr] bind_congr1 map_congr1 cond_congr1
attribute [local simp] cApiAddr cApiContact cApiCoil cApiRung cApiIns cApiLadder cApiSize cApiProgram cReducePair cReduceEdge cTreeTree_eq TreeTree_Kind_mk TreeTree_N_mk TreeTree_Kids_mk eta_TreeTree
set_option maxHeartbeats 4000000
set_option maxRecDepth 20000
set_option linter.unusedSimpArgs false
set_option linter.unusedVariables false

theorem con_law17_CodegenSlotOffset {n : Nat} {_append0 : ApiRung} {a1 : Int} {a2 : Int} {r : Bool} (h : law17_CodegenSlotOffset n _append0 a1 a2 = some r) : Con Tryd.prog G0 6 [.agg (cApiRung _append0), .int .u8 a1, .int .u8 a2] (.bool r) [] := by
  refine con_of (T := TT0) tt_ok Tryd.func6 (c := _) (by unfold Tryd.f6; rfl) Tryd.ntmps6 (rs := [.tmp 6]) (by rw [Tryd.results6]) (by unfold Tryd.f6; rfl) (by simp) ?_
  simp only [argsCh]
  have F := True.intro
  dsimp only [law17_CodegenSlotOffset] at h
  refine rs0 ?_
  iterate 2 refine vp ?_
  refine vn ?_
  refine Wp.seq ?_
  refine rs0 ?_
  refine vp ?_
  obtain ⟨r16019, hr16018, h⟩ := obind h
  refine vc (con_law12_TooLarge hr16018) ?_
  iterate 2 refine vp ?_
  refine sD h F (fun F h => ?_) fun F h => ?_
  refine vg ?_
  refine vg ?_
  refine vg ?_
  refine vg ?_
  refine vp ?_
  refine vn ?_
  refine sD h F (fun F h => ?_) fun F h => ?_
  refine cF ?_
  refine Wp.skip ?_
  refine sh ?_
  refine rs0 ?_
  refine vp ?_
  obtain ⟨⟨r16025, r16026⟩, hr16024, h⟩ := obind h
  dsimp only at h
  refine vc (con_reduce_Reduce hr16024) ?_
  iterate 6 refine vp ?_
  refine vn ?_
  refine Wp.seq ?_
  refine rs0 ?_
  iterate 2 refine vp ?_
  refine vn ?_
  refine sB h F (fun F h => ?_) fun F h => ?_
  refine cF ?_
  refine Wp.skip ?_
  refine sh ?_
  refine rs0 ?_
  iterate 4 refine vp ?_
  obtain ⟨⟨r16032, r16033⟩, hr16031, h⟩ := obind h
  dsimp only at h
  refine vc (con_codegen_Tree hr16031) ?_
  iterate 5 refine vp ?_
  refine vn ?_
  refine rs0 ?_
  iterate 7 refine vp ?_
  obtain ⟨⟨r16035, r16036⟩, hr16034, h⟩ := obind h
  dsimp only at h
  refine vc (con_codegen_Tree hr16034) ?_
  iterate 5 refine vp ?_
  refine vn ?_
  refine Wp.seq ?_
  refine rs0 ?_
  iterate 4 refine vp ?_
  refine sB h F (fun F h => ?_) fun F h => ?_
  refine vg ?_
  refine vg ?_
  refine vg ?_
  refine vg ?_
  refine vg ?_
  refine vp ?_
  refine vn ?_
  refine sB h F (fun F h => ?_) fun F h => ?_
  refine cF ?_
  refine Wp.skip ?_
  refine sh ?_
  refine Wp.seq ?_
  refine rs0 ?_
  iterate 3 refine vp ?_
  refine vn ?_
  refine Wp.block ?_
  refine lp [] (fun p16044 : Int => { ch := [(2, .int .u8 a2), (9, aL cApiIns r16032), (11, aL cApiIns r16035), (63, .int .i64 (r16032.length : Int)), (64, .int .i64 p16044)], hp := [], base := 0, n := 109, cond := True, gl := G0 }) (fun m x => law17_CodegenSlotOffset_L1 n a2 r16032 r16035 m x = some r) n 0 h ?_
  rintro rec_n1 p16044 h
  dsimp only [law17_CodegenSlotOffset_L1] at h
  try dsimp only
  refine rs0 ?_
  refine vp ?_
  refine vn ?_
  refine Wp.seq ?_
  refine sD h F (fun F h => ?_) fun F h => ?_
  refine cF ?_
  refine Wp.exit ?_
  refine sh ?_
  refine rs0 ?_
  obtain ⟨r16058, hr16057, h⟩ := obind h
  refine vc (con_law17_alive hr16057) ?_
  refine vp ?_
  refine vn ?_
  cases h
  exact Wp.ret en0
  refine cT ?_
  refine Wp.skip ?_
  refine sh ?_
  refine Wp.seq ?_
  refine Wp.block ?_
  refine rs0 ?_
  iterate 2 refine vp ?_
  refine vn ?_
  refine rs0 ?_
  iterate 2 refine vp ?_
  refine eI h F fun x16054 F h => ?_
  iterate 4 refine vp ?_
  refine vn ?_
  refine jn (fun p16055 : Int => { ch := [(2, .int .u8 a2), (9, aL cApiIns r16032), (11, aL cApiIns r16035), (13, .int .i64 p16044), (14, .int .i64 p16055), (63, .int .i64 (r16032.length : Int)), (64, .int .i64 p16044)], hp := [], base := 0, n := 109, cond := True, gl := G0 }) (fun x => law17_CodegenSlotOffset_J2 r16035 p16044 (law17_CodegenSlotOffset_L1 n a2 r16032 r16035 rec_n1) x16054 x = some r) ?_ ?_
  clear h
  rintro p16055 h
  dsimp only [law17_CodegenSlotOffset_J2] at h
  try dsimp only
  refine dw (fun _ => false) [] ?_
  refine du 2 ?_
  refine eI h F fun x16056 F h => ?_
  refine du 8 ?_
  refine du 7 ?_
  refine dn ?_
  refine sB h F (fun F h => ?_) fun F h => ?_
  refine cF ?_
  refine Wp.skip ?_
  refine sh ?_
  refine rg0 ?_
  iterate 2 refine vp ?_
  refine vn ?_
  exact nx [] (IntKind.i64.wrap (p16044 + 1)) h
  refine cT ?_
  refine rs0 ?_
  refine vp ?_
  refine vn ?_
  cases h
  exact Wp.ret en0
  refine rs0 ?_
  iterate 7 refine vp ?_
  refine sB h F (fun F h => ?_) fun F h => ?_
  refine vg ?_
  refine vg ?_
  refine vg ?_
  refine vg ?_
  refine vg ?_
  refine vg ?_
  refine vp ?_
  refine vn ?_
  refine sB h F (fun F h => ?_) fun F h => ?_
  refine cF ?_
  refine Wp.skip ?_
  exact nx [] x16054.N h
  refine cT ?_
  refine rg0 ?_
  iterate 5 refine vp ?_
  refine vn ?_
  exact nx [] (IntKind.i64.wrap (x16054.N + (IntKind.i64.wrap (a2)))) h
  refine vs ?_
  refine vs ?_
  refine vs ?_
  refine vs ?_
  refine vs ?_
  refine vs ?_
  refine vp ?_
  refine vn ?_
  refine cT ?_
  refine rg0 ?_
  iterate 5 refine vp ?_
  refine vn ?_
  exact nx [] (IntKind.i64.wrap (x16054.N + (IntKind.i64.wrap (a2)))) h
  refine cT ?_
  refine rs0 ?_
  refine vp ?_
  refine vn ?_
  cases h
  exact Wp.ret en0
  refine vs ?_
  refine vs ?_
  refine vs ?_
  refine vs ?_
  refine vs ?_
  refine vp ?_
  refine vn ?_
  refine cT ?_
  refine rs0 ?_
  refine vp ?_
  refine vn ?_
  cases h
  exact Wp.ret en0
  refine cT ?_
  refine rs0 ?_
  obtain ⟨r16030, hr16029, h⟩ := obind h
  refine vc (con_law17_alive hr16029) ?_
  refine vp ?_
  refine vn ?_
  cases h
  exact Wp.ret en0
  refine cT ?_
  refine rs0 ?_
  obtain ⟨r16023, hr16022, h⟩ := obind h
  refine vc (con_law17_alive hr16022) ?_
  refine vp ?_
  refine vn ?_
  cases h
  exact Wp.ret en0
  refine vs ?_
  refine vs ?_
  refine vs ?_
  refine vs ?_
  refine vp ?_
  refine vn ?_
  refine cT ?_
  refine rs0 ?_
  obtain ⟨r16021, hr16020, h⟩ := obind h
  refine vc (con_law17_alive hr16020) ?_
  refine vp ?_
  refine vn ?_
  cases h
  exact Wp.ret en0

end Go.Proofs.YtaebdeidbibfkaaDoor

/- Contracts: models of functions are right. No law is proved here. -/
import Derived.Test.YtaebdeidbibfkaaDoorJGMod
import Derived.Test.YtaebdeidbibfkaaDoorJTaj
import Derived.Test.YtaebdeidbibfkaaDoorJSo
import Derived.Test.YtaebdeidbibfkaaDoorJGC6
import Derived.Test.YtaebdeidbibfkaaDoorJGC19
import Derived.Test.YtaebdeidbibfkaaDoorJGC20
namespace Go.Proofs.YtaebdeidbibfkaaDoor
open Go.Av Go.G
attribute [-simp] Int.natCast_tdiv_eq_ediv
attribute [local simp] runf guardA opf St.ev Go.Av.look St.setd constAV constAV0 opBin opLen intBin St.need lookT TT0 tab resA resOne resAll blt_dec ble_dec beq_dec isPure
attribute [local simp] opMakeSlice opCopy opIndexAddr opLoad opStore St.mem St.rows opUn calleeA toArgs toArg toArg0 toArgs0 shift shift0 shift1 splice cellsOf isFree ofCells TS.isAgg isCell strBin opConvert
attribute [local simp] opSlice3 opClear fz_clear opBuildSlice fillA opAppend eqC eqA cksB ckB St.newBox runI valKind withinB readsHp refsD refs noSl opFieldAddr opBuild opMax opMin placeOf Op.operands Call.operands opIndex opExtract opSlice opField partA
attribute [local simp] loA hiA lenA opMakeMap opLookup opMapUpdate keyOk findA_int findA_str findA_bool putA_strB putA_strI putA_strS putA_intB putA_intI putA_intS putA_boolI putA_boolB byteRow_rwN bytesOf_rwN opBytesStr mAV_length mAV_nil cA1 cA2 cA3 cA4 opNilCheck opMakeFunc opRange
attribute [local simp] aL cI cB cS cL rw_map fz_rw fz_const dropRow_rw fz_append fz_set fz_copy fz_rows rowLen_rw rowsLen_nil rowsLen_cons rowsLen_append rowsLen_map rowsLen_dm rowsLen_tm rowsLen_take rowsLen_drop rowsLen_replicate take_map_len take_map_le drop_map_len take_drop_len chunks isScalar isScalar0
attribute [local simp] putBack putAt objMap mapC mapA mapT map0 bid rid memB passed closedB argsH argH argH0 argsH0 objIds ids0 idsC isLocT isLocA isLocC isLoc0 LocObj
attribute [local congr] bind_congr1 map_congr1 cond_congr1
attribute [local simp] cApiAddr cApiContact cApiCoil cApiRung cApiIns cApiLadder cApiSize cApiProgram cReducePair cReduceEdge cTreeTree_eq TreeTree_Kind_mk TreeTree_N_mk TreeTree_Kids_mk eta_TreeTree
variable [Drawn]
set_option maxHeartbeats 4000000
set_option linter.unusedSectionVars false
set_option maxRecDepth 20000
set_option linter.unusedSimpArgs false
set_option linter.unusedVariables false
theorem con_law17_CodegenJumpTargets {n : Nat} {_append0 : ApiLadder} {r : Bool} (h : law17_CodegenJumpTargets n _append0 = some r) : Con Tryd.prog G0 7 [.agg (cApiLadder _append0)] (.bool r) [] := by
  refine con_of (T := TT0) tt_ok Tryd.func7 (c := _) (by unfold Tryd.f7; rfl) Tryd.ntmps7 (rs := [.tmp 2]) (by rw [Tryd.results7]) (by unfold Tryd.f7; rfl) (by simp) ?_
  simp only [argsCh]
  have F := True.intro
  dsimp only [law17_CodegenJumpTargets] at h
  refine rs0 ?_
  iterate 2 refine vp ?_
  refine vn ?_
  refine Wp.seq ?_
  refine rs0 ?_
  refine vp ?_
  obtain ⟨r16089, hr16088, h⟩ := obind h
  refine vc (con_law17_TooLarge hr16088) ?_
  refine vp ?_
  refine vn ?_
  refine sD h F (fun F h => ?_) fun F h => ?_
  refine cF ?_
  refine Wp.skip ?_
  refine sh ?_
  refine rs0 ?_
  refine vp ?_
  obtain ⟨⟨r16093, r16094, r16095⟩, hr16092, h⟩ := obind h
  dsimp only at h
  refine vc (con_codegen_Ladder hr16092) ?_
  iterate 8 refine vp ?_
  refine vn ?_
  refine rs0 ?_
  refine vp ?_
  obtain ⟨⟨r16102, r16103⟩, hr16101, h⟩ := obind h
  dsimp only at h
  refine vc (con_codegen_Starts hr16101) ?_
  iterate 5 refine vp ?_
  refine vn ?_
  refine Wp.seq ?_
  refine rs0 ?_
  iterate 3 refine vp ?_
  refine vn ?_
  refine sB h F (fun F h => ?_) fun F h => ?_
  refine cF ?_
  refine Wp.skip ?_
  refine sh ?_
  refine Wp.seq ?_
  refine rs0 ?_
  iterate 2 refine vp ?_
  refine vn ?_
  refine sB h F (fun F h => ?_) fun F h => ?_
  refine cF ?_
  refine Wp.skip ?_
  refine sh ?_
  refine Wp.seq ?_
  refine dw (fun _ => false) [0, 1] ?_
  refine du 8 ?_
  refine sB h F (fun F h => ?_) fun F h => ?_
  refine du 1 ?_
  refine eN (m := 0) h F fun x16110 F h => ?_
  refine du 1 ?_
  refine du 1 ?_
  refine du 1 ?_
  refine du 2 ?_
  refine sB h F (fun F h => ?_) fun F h => ?_
  refine du 1 ?_
  refine du 1 ?_
  refine du 1 ?_
  refine du 1 ?_
  refine eI h F fun x16111 F h => ?_
  refine du 1 ?_
  refine du 1 ?_
  refine du 1 ?_
  refine du 1 ?_
  refine du 1 ?_
  refine du 1 ?_
  refine du 1 ?_
  refine du 1 ?_
  refine dn ?_
  refine sB h F (fun F h => ?_) fun F h => ?_
  refine cF ?_
  refine Wp.skip ?_
  refine sh ?_
  refine Wp.seq ?_
  refine rs0 ?_
  iterate 4 refine vp ?_
  refine vn ?_
  refine Wp.block ?_
  refine lp [some 0, some 1] (fun p16125 : Int => { ch := [(1, .hptr 0 0 0), (3, .hptr 1 0 0), (6, aL (cI .i64) r16102), (65, aL cApiRung _append0.Rungs), (66, .int .i64 (_append0.Rungs.length : Int)), (67, .int .i64 p16125)], hp := [.var [.int .i64 _append0.I, .int .i64 _append0.Q, .int .i64 _append0.M, aL cApiRung _append0.Rungs], .var [.int .i64 r16093.Size.I, .int .i64 r16093.Size.Q, .int .i64 r16093.Size.M, .int .i64 r16093.Size.E, aL cApiIns r16093.Code]], base := 0, n := 142, cond := True, gl := G0 }) (fun m x => law17_CodegenJumpTargets_L1 n _append0 r16093 r16102 m x = some r) n 0 h ?_
  rintro rec_n1 p16125 h
  dsimp only [law17_CodegenJumpTargets_L1] at h
  try dsimp only
  refine rs0 ?_
  refine vp ?_
  refine vn ?_
  refine Wp.seq ?_
  refine sD h F (fun F h => ?_) fun F h => ?_
  refine cF ?_
  refine Wp.exit ?_
  refine sh ?_
  refine rs0 ?_
  obtain ⟨r16158, hr16157, h⟩ := obind h
  refine vc (con_law17_alive hr16157) ?_
  refine vp ?_
  refine vn ?_
  cases h
  exact Wp.ret en0
  refine cT ?_
  refine Wp.skip ?_
  refine sh ?_
  refine Wp.seq ?_
  refine Wp.block ?_
  refine rs0 ?_
  refine vp ?_
  refine eI h F fun x16144 F h => ?_
  iterate 5 refine vp ?_
  refine vn ?_
  refine Wp.seq ?_
  refine dw (fun _ => false) [1] ?_
  refine du 3 ?_
  refine eI h F fun x16147 F h => ?_
  refine du 4 ?_
  refine eI h F fun x16148 F h => ?_
  refine du 4 ?_
  refine sD h F (fun F h => ?_) fun F h => ?_
  refine du 1 ?_
  refine du 1 ?_
  refine du 1 ?_
  refine du 1 ?_
  refine du 1 ?_
  refine du 1 ?_
  refine du 1 ?_
  refine du 1 ?_
  refine du 1 ?_
  refine du 1 ?_
  refine dn ?_
  refine sD h F (fun F h => ?_) fun F h => ?_
  refine cF ?_
  refine Wp.skip ?_
  refine sh ?_
  refine dw (fun _ => false) [1] ?_
  refine du 8 ?_
  refine eI h F fun x16149 F h => ?_
  refine du 2 ?_
  refine de ?_
  refine db ?_
  refine dn ?_
  refine Wp.seq ?_
  refine rs0 ?_
  iterate 7 refine vp ?_
  refine vn ?_
  refine sB h F (fun F h => ?_) fun F h => ?_
  refine cF ?_
  refine Wp.skip ?_
  refine sh ?_
  refine rs0 ?_
  iterate 4 refine vp ?_
  refine vn ?_
  refine Wp.block ?_
  refine lp [some 0, some 3, some 1, some 2] (fun p16152 : Int => { ch := [(1, .hptr 0 0 0), (3, .hptr 2 0 0), (6, aL (cI .i64) r16102), (9, .hptr 3 0 0), (10, .hptr 1 0 0), (65, aL cApiRung _append0.Rungs), (66, .int .i64 (_append0.Rungs.length : Int)), (67, .int .i64 p16125), (83, aL (cI .i64) r16102), (84, .int .i64 p16125), (85, .int .i64 (IntKind.i64.wrap (p16125 + 1))), (86, .fptr [.int .i64 x16147]), (87, .int .i64 x16147), (88, .hptr 2 0 4), (89, aL cApiIns r16093.Code), (90, .int .i64 (r16093.Code.length : Int)), (91, .bool (decide (x16147 > (r16093.Code.length : Int)))), (112, .int .i64 (_append0.Rungs.length : Int)), (113, .int .i64 p16152)], hp := [.var [.int .i64 _append0.I, .int .i64 _append0.Q, .int .i64 _append0.M, aL cApiRung _append0.Rungs], .var [.int .i64 x16149.Op, .int .i64 x16149.A.Space, .int .i64 x16149.A.N, .int .i64 x16149.N], .var [.int .i64 r16093.Size.I, .int .i64 r16093.Size.Q, .int .i64 r16093.Size.M, .int .i64 r16093.Size.E, aL cApiIns r16093.Code], .var [.str x16144.Label, aL cApiContact x16144.Contacts, aL cApiCoil x16144.Coils, .str x16144.Jump]], base := 0, n := 142, cond := True, gl := G0 }) (fun m x => law17_CodegenJumpTargets_L2 _append0 r16102 p16125 (law17_CodegenJumpTargets_L1 n _append0 r16093 r16102 rec_n1) x16144 x16149 m x = some r) n 0 h ?_
  rintro rec_n2 p16152 h
  dsimp only [law17_CodegenJumpTargets_L2] at h
  try dsimp only
  refine rs0 ?_
  refine vp ?_
  refine vn ?_
  refine Wp.seq ?_
  refine sD h F (fun F h => ?_) fun F h => ?_
  refine cF ?_
  refine Wp.exit ?_
  refine sh ?_
  refine rg0 ?_
  iterate 2 refine vp ?_
  refine vn ?_
  exact nx [some 0, some 2] (IntKind.i64.wrap (p16125 + 1)) h
  refine cT ?_
  refine Wp.skip ?_
  refine sh ?_
  refine Wp.seq ?_
  refine Wp.block ?_
  refine rs0 ?_
  iterate 2 refine vp ?_
  refine vn ?_
  refine dw (fun _ => false) [0, 1, 3] ?_
  refine du 4 ?_
  refine sEn h F (fun _ F h => ?_) fun _ F h => ?_
  refine ds ?_
  refine ds ?_
  refine ds ?_
  refine ds ?_
  refine ds ?_
  refine ds ?_
  refine ds ?_
  refine ds ?_
  refine ds ?_
  refine du 2 ?_
  refine ds ?_
  refine ds ?_
  refine ds ?_
  refine ds ?_
  refine ds ?_
  refine ds ?_
  refine ds ?_
  refine du 1 ?_
  refine dn ?_
  refine cF ?_
  refine Wp.skip ?_
  refine sh ?_
  refine rg0 ?_
  iterate 2 refine vp ?_
  refine vn ?_
  exact nx [some 0, some 1, some 2, some 3] (IntKind.i64.wrap (p16152 + 1)) h
  refine du 1 ?_
  refine du 1 ?_
  refine du 1 ?_
  refine eI h F fun x16155 F h => ?_
  refine du 1 ?_
  refine du 1 ?_
  refine du 1 ?_
  refine du 1 ?_
  refine du 1 ?_
  refine du 1 ?_
  refine du 2 ?_
  refine sE h F (fun _ F h => ?_) fun _ F h => ?_
  refine ds ?_
  refine ds ?_
  refine ds ?_
  refine ds ?_
  refine ds ?_
  refine ds ?_
  refine ds ?_
  refine du 1 ?_
  refine dn ?_
  refine cF ?_
  refine Wp.skip ?_
  refine sh ?_
  refine rg0 ?_
  iterate 2 refine vp ?_
  refine vn ?_
  exact nx [some 0, some 1, some 2, some 3] (IntKind.i64.wrap (p16152 + 1)) h
  refine du 1 ?_
  refine du 1 ?_
  refine du 1 ?_
  refine du 1 ?_
  refine eI h F fun x16156 F h => ?_
  refine du 1 ?_
  refine du 1 ?_
  refine du 1 ?_
  refine du 1 ?_
  refine dn ?_
  refine sB h F (fun F h => ?_) fun F h => ?_
  refine cF ?_
  refine Wp.skip ?_
  refine sh ?_
  refine rg0 ?_
  iterate 2 refine vp ?_
  refine vn ?_
  exact nx [some 0, some 1, some 2, some 3] (IntKind.i64.wrap (p16152 + 1)) h
  refine cT ?_
  refine rs0 ?_
  refine vp ?_
  refine vn ?_
  cases h
  exact Wp.ret en0
  refine cT ?_
  refine rs0 ?_
  refine vp ?_
  refine vn ?_
  cases h
  exact Wp.ret en0
  refine cT ?_
  refine rs0 ?_
  refine vp ?_
  refine vn ?_
  cases h
  exact Wp.ret en0
  refine ds ?_
  refine ds ?_
  refine ds ?_
  refine ds ?_
  refine ds ?_
  refine ds ?_
  refine ds ?_
  refine ds ?_
  refine ds ?_
  refine du 1 ?_
  refine dn ?_
  refine cT ?_
  refine rs0 ?_
  refine vp ?_
  refine vn ?_
  cases h
  exact Wp.ret en0
  refine cT ?_
  refine rs0 ?_
  refine vp ?_
  refine vn ?_
  cases h
  exact Wp.ret en0
  refine ds ?_
  refine ds ?_
  refine ds ?_
  refine ds ?_
  refine ds ?_
  refine ds ?_
  refine ds ?_
  refine ds ?_
  refine ds ?_
  refine ds ?_
  refine ds ?_
  refine du 1 ?_
  refine dn ?_
  refine cT ?_
  refine rs0 ?_
  refine vp ?_
  refine vn ?_
  cases h
  exact Wp.ret en0
  refine ds ?_
  refine ds ?_
  refine ds ?_
  refine ds ?_
  refine du 2 ?_
  refine ds ?_
  refine ds ?_
  refine ds ?_
  refine ds ?_
  refine ds ?_
  refine ds ?_
  refine ds ?_
  refine ds ?_
  refine ds ?_
  refine ds ?_
  refine ds ?_
  refine du 1 ?_
  refine dn ?_
  refine cT ?_
  refine rs0 ?_
  refine vp ?_
  refine vn ?_
  cases h
  exact Wp.ret en0
  refine cT ?_
  refine rs0 ?_
  obtain ⟨r16107, hr16106, h⟩ := obind h
  refine vc (con_law17_alive hr16106) ?_
  refine vp ?_
  refine sB h F (fun F h => ?_) fun F h => ?_
  refine vs ?_
  refine vs ?_
  refine vs ?_
  iterate 2 refine vp ?_
  refine vn ?_
  cases h
  exact Wp.ret en0
  refine vg ?_
  refine vg ?_
  refine vg ?_
  iterate 2 refine vp ?_
  refine vn ?_
  cases h
  exact Wp.ret en0
  refine cT ?_
  refine rs0 ?_
  refine vp ?_
  refine vn ?_
  cases h
  exact Wp.ret en0
  refine cT ?_
  refine rs0 ?_
  obtain ⟨r16091, hr16090, h⟩ := obind h
  refine vc (con_law17_alive hr16090) ?_
  refine vp ?_
  refine vn ?_
  cases h
  exact Wp.ret en0
end Go.Proofs.YtaebdeidbibfkaaDoor

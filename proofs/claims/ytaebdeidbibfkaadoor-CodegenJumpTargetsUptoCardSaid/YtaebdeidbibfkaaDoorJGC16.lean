/- Contracts: models of functions are right. No law is proved here. -/
import Derived.Test.YtaebdeidbibfkaaDoorJGMod
import Derived.Test.YtaebdeidbibfkaaDoorJTaj
import Derived.Test.YtaebdeidbibfkaaDoorJSo
import Derived.Test.YtaebdeidbibfkaaDoorJGC5
import Derived.Test.YtaebdeidbibfkaaDoorJGC8
import Derived.Test.YtaebdeidbibfkaaDoorJGC11
import Derived.Test.YtaebdeidbibfkaaDoorJGC15
namespace Go.Proofs.YtaebdeidbibfkaaDoor
open Go.Av Go.G
attribute [-simp] Int.natCast_tdiv_eq_ediv
attribute [local simp] runf guardA opf St.ev Go.Av.look St.setd constAV constAV0 opBin opLen intBin St.need lookT TT0 tab resA resOne resAll blt_dec ble_dec beq_dec isPure
attribute [local simp] opMakeSlice opCopy opIndexAddr opLoad opStore St.mem St.rows opUn calleeA toArgs toArg toArg0 toArgs0 shift shift0 shift1 splice cellsOf isFree ofCells TS.isAgg isCell strBin opConvert
attribute [local simp] opSlice3 opClear fz_clear opBuildSlice fillA opAppend eqC eqA cksB ckB St.newBox runI valKind withinB readsHp refsD refs noSl opFieldAddr opBuild opMax opMin placeOf Op.operands Call.operands opIndex opExtract opSlice opField partA
attribute [local simp] loA hiA lenA opMakeMap opLookup opMapUpdate keyOk findA_int findA_str findA_bool putA_strB putA_strI putA_strS putA_intB putA_intI putA_intS putA_boolI putA_boolB byteRow_rwN bytesOf_rwN opBytesStr mAV_length mAV_nil cA1 cA2 cA3 cA4 opNilCheck opMakeFunc opRange
attribute [local simp] aL cI cB cS cL rw_map fz_rw fz_const dropRow_rw fz_append fz_set fz_copy fz_rows rowLen_rw rowsLen_nil rowsLen_cons rowsLen_append rowsLen_map rowsLen_dm rowsLen_tm rowsLen_take rowsLen_drop rowsLen_replicate take_map_len take_map_le drop_map_len take_drop_len chunks isScalar isScalar0
attribute [local simp] putBack putAt objMap mapC mapA mapT map0 bid rid memB passed closedB argsH argH argH0 argsH0 objIds ids0 idsC isLocT isLocA isLocC isLoc0 LocObj
attribute [local congr] bind_congr1 map_congr1 cond_congr1
attribute [local simp] cApiAddr cApiContact cApiCoil cApiRung cApiIns cApiLadder cApiSize cApiProgram cReducePair cReduceEdge cTreeTree_eq TreeTree_Kind_mk TreeTree_N_mk TreeTree_Kids_mk eta_TreeTree
variable [Drawn]
set_option maxHeartbeats 4000000
set_option linter.unusedSectionVars false
set_option maxRecDepth 20000
set_option linter.unusedSimpArgs false
set_option linter.unusedVariables false
theorem con_reduce_Reduce {n : Nat} {_append0 : ApiRung} {r : TreeTree × Int} (h : reduce_Reduce n _append0 = some r) : Con Tryd.prog G0 11 [.agg (cApiRung _append0)] (.tup [.agg [.int .i64 r.1.Kind, .int .i64 r.1.N, aL cTreeTree r.1.Kids], .int .i64 r.2]) [] := by
  refine con_of (T := TT0) tt_ok Tryd.func11 (c := _) (by unfold Tryd.f11; rfl) Tryd.ntmps11 (rs := [.cell 2 31, .tmp 3]) (by rw [Tryd.results11]) (by unfold Tryd.f11; rfl) (by simp) ?_
  simp only [argsCh]
  have F := True.intro
  dsimp only [reduce_Reduce] at h
  refine rs0 ?_
  iterate 3 refine vp ?_
  refine vn ?_
  refine Wp.seq ?_
  refine rs0 ?_
  refine vp ?_
  obtain ⟨r14757, hr14756, h⟩ := obind h
  refine vc (con_flow_Check hr14756) ?_
  refine vp ?_
  refine vn ?_
  refine rs0 ?_
  iterate 2 refine vp ?_
  refine vn ?_
  refine sB h F (fun F h => ?_) fun F h => ?_
  refine cF ?_
  refine Wp.skip ?_
  refine sh ?_
  refine rs0 ?_
  refine vp ?_
  refine vn ?_
  refine jn (fun p14766 : List ReduceEdge => { ch := [(2, .hptr 0 0 0), (5, .sl 1 0 p14766.length)], hp := [.var [.int .i64 0, .int .i64 0, .nilsl], .arr 5 p14766.length (rw (p14766.map cReduceEdge))], base := 0, n := 69, cond := True, gl := G0 }) (fun x => reduce_Reduce_J1 n x = some r) ?_ ?_
  clear h
  rintro p14766 h
  dsimp only [reduce_Reduce_J1] at h
  try dsimp only
  refine jn (fun p15090 : List ReduceEdge => { ch := [(2, .hptr 0 0 0), (5, .sl 1 0 p15090.length)], hp := [.var [.int .i64 0, .int .i64 0, .nilsl], .arr 5 p15090.length (rw (p15090.map cReduceEdge))], base := 0, n := 69, cond := True, gl := G0 }) (fun x => reduce_Reduce_J2 n x = some r) ?_ ?_
  clear h
  rintro p15090 h
  dsimp only [reduce_Reduce_J2] at h
  try dsimp only
  refine Wp.seq ?_
  refine rs0 ?_
  iterate 4 refine vp ?_
  refine sB h F (fun F h => ?_) fun F h => ?_
  refine vg ?_
  refine eN (m := 0) h F fun x15091 F h => ?_
  refine vg ?_
  refine vg ?_
  refine vg ?_
  refine vg ?_
  refine vg ?_
  refine vp ?_
  refine vn ?_
  refine sB h F (fun F h => ?_) fun F h => ?_
  refine cF ?_
  refine Wp.skip ?_
  refine sh ?_
  refine rs0 ?_
  iterate 4 refine vp ?_
  obtain ⟨r15177, hr15176, h⟩ := obind h
  refine vc (con_reduce_sorted _ hr15176) ?_
  iterate 2 refine vp ?_
  refine vn ?_
  cases h
  exact Wp.ret en0
  refine cT ?_
  refine rs0 ?_
  iterate 3 refine vp ?_
  refine vn ?_
  cases h
  exact Wp.ret en0
  refine vs ?_
  refine vs ?_
  refine vs ?_
  refine vs ?_
  refine vs ?_
  refine vs ?_
  refine vp ?_
  refine vn ?_
  refine cT ?_
  refine rs0 ?_
  iterate 3 refine vp ?_
  refine vn ?_
  cases h
  exact Wp.ret en0
  refine rs0 ?_
  refine vp ?_
  refine vn ?_
  refine Wp.block ?_
  refine lp [some 0, some 1] (fun x : (List ReduceEdge) × Bool => { ch := [(2, .hptr 0 0 0), (5, .sl 1 0 x.1.length), (8, .bool x.2)], hp := [.var [.int .i64 0, .int .i64 0, .nilsl], .arr 5 x.1.length (rw (x.1.map cReduceEdge))], base := 0, n := 69, cond := True, gl := G0 }) (fun m x => reduce_Reduce_L3 n m x.1 x.2 = some r) n (p14766, true) h ?_
  rintro rec_n3 ⟨p15184, true15185⟩ h
  dsimp only [reduce_Reduce_L3] at h
  try dsimp only
  refine Wp.seq ?_
  refine rs0 ?_
  refine vp ?_
  refine vn ?_
  refine sB h F (fun F h => ?_) fun F h => ?_
  refine cF ?_
  refine Wp.exit ?_
  exact nx [some 0, some 1] p15184 h
  refine cT ?_
  refine Wp.skip ?_
  refine sh ?_
  refine Wp.block ?_
  refine rs0 ?_
  iterate 2 refine vp ?_
  refine vn ?_
  refine rs0 ?_
  refine vp ?_
  obtain ⟨⟨r15193, q15194⟩, hr15192, h⟩ := obind h
  dsimp only at h
  refine vh [1] (con_reduce_parallel_v1 hr15192) ?_
  iterate 5 refine vp ?_
  refine vn ?_
  refine rs0 ?_
  refine vp ?_
  obtain ⟨⟨r15196, q15197⟩, hr15195, h⟩ := obind h
  dsimp only at h
  refine vh [1] (con_reduce_series_v1 hr15195) ?_
  iterate 5 refine vp ?_
  refine vn ?_
  refine rg0 ?_
  iterate 2 refine vp ?_
  refine sB h F (fun F h => ?_) fun F h => ?_
  refine vg ?_
  iterate 2 refine vp ?_
  refine vn ?_
  exact nx [some 0, some 1] (q15197, r15196) h
  refine vs ?_
  iterate 2 refine vp ?_
  refine vn ?_
  exact nx [some 0, some 1] (q15197, true) h
  refine rs0 ?_
  iterate 4 refine vp ?_
  refine vn ?_
  refine Wp.block ?_
  refine lp [some 1, none] (fun x : Int × (List ReduceEdge) => { ch := [(2, .hptr 0 0 0), (5, .sl 1 0 x.2.length), (18, aL cApiContact _append0.Contacts), (19, .int .i64 (_append0.Contacts.length : Int)), (20, .int .i64 x.1)], hp := [.var [.int .i64 0, .int .i64 0, .nilsl], .arr 5 x.2.length (rw (x.2.map cReduceEdge))], base := 0, n := 69, cond := True, gl := G0 }) (fun m x => reduce_Reduce_L4 n _append0 m x.1 x.2 = some r) n (0, []) h ?_
  rintro rec_n4 ⟨p15200, p15201⟩ h
  dsimp only [reduce_Reduce_L4] at h
  try dsimp only
  refine rs0 ?_
  refine vp ?_
  refine vn ?_
  refine Wp.seq ?_
  refine sD h F (fun F h => ?_) fun F h => ?_
  refine cF ?_
  refine Wp.exit ?_
  exact nx [some 0, some 1] p15201 h
  refine cT ?_
  refine Wp.skip ?_
  refine sh ?_
  refine Wp.seq ?_
  refine Wp.block ?_
  refine rs0 ?_
  refine vp ?_
  refine eI h F fun x15204 F h => ?_
  iterate 5 refine vp ?_
  refine vn ?_
  refine rg (fun d => Nat.beq d 35) ?_
  iterate 9 refine vp ?_
  refine vl [some 0, some 1, some 2] { ch := [(2, .hptr 0 0 0), (5, .sl 1 0 p15201.length), (6, .int .i64 p15200), (7, .hptr 2 0 0), (18, aL cApiContact _append0.Contacts), (19, .int .i64 (_append0.Contacts.length : Int)), (20, .int .i64 p15200), (21, .bool (decide (p15200 < (_append0.Contacts.length : Int)))), (22, .int .i64 p15200), (23, .fptr [.int .i64 x15204.Kind, .int .i64 x15204.A.Space, .int .i64 x15204.A.N, .str x15204.From, .str x15204.To]), (24, .agg [.int .i64 x15204.Kind, .int .i64 x15204.A.Space, .int .i64 x15204.A.N, .str x15204.From, .str x15204.To]), (25, .sl 1 0 p15201.length), (26, .hptr 2 0 3), (27, .str x15204.From), (28, .hptr 2 0 4), (29, .str x15204.To), (30, .agg [.str x15204.From, .str x15204.To]), (31, .int .i64 p15200), (32, .agg [.int .i64 0, .int .i64 p15200, aL cTreeTree ([] : List TreeTree)]), (33, .agg [.str x15204.From, .str x15204.To, .int .i64 0, .int .i64 p15200, aL cTreeTree ([] : List TreeTree)])], hp := [.var [.int .i64 0, .int .i64 0, .nilsl], .arr 5 p15201.length (rw (p15201.map cReduceEdge)), .var [.int .i64 x15204.Kind, .int .i64 x15204.A.Space, .int .i64 x15204.A.N, .str x15204.From, .str x15204.To]], base := 0, n := 69, cond := True, gl := G0 } ?_
  refine vp ?_
  refine gd h F fun F h => ?_
  refine vp ?_
  refine nm cReduceEdge h F fun l15205 F h => ?_
  refine vp ?_
  refine vn ?_
  refine sh ?_
  refine rg0 ?_
  iterate 2 refine vp ?_
  refine vn ?_
  exact nx [some 0, some 3] ((IntKind.i64.wrap (p15200 + 1)), l15205) h
  refine cT ?_
  refine rs0 ?_
  iterate 4 refine vp ?_
  refine vn ?_
  cases h
  exact Wp.ret en0
end Go.Proofs.YtaebdeidbibfkaaDoor

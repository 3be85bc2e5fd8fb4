/- Contracts: models of functions are right. No law is proved here. -/
import Derived.Test.YtaebdeidbibfkaaGreatDoorWGMod
import Derived.Test.YtaebdeidbibfkaaGreatDoorWTaw
import Derived.Test.YtaebdeidbibfkaaGreatDoorWSoz
import Derived.Test.YtaebdeidbibfkaaGreatDoorWShw
import Derived.Test.YtaebdeidbibfkaaGreatDoorWGC7
import Derived.Test.YtaebdeidbibfkaaGreatDoorWGC9
import Derived.Test.YtaebdeidbibfkaaGreatDoorWGC12
import Derived.Test.YtaebdeidbibfkaaGreatDoorWGC16
namespace Go.Proofs.YtaebdeidbibfkaaGreatDoor
open Go.Av Go.G
attribute [-simp] Int.natCast_tdiv_eq_ediv
attribute [local simp] runf guardA opf St.ev Go.Av.look St.setd constAV constAV0 opBin opLen intBin St.need lookT TT0 tab resA resOne resAll blt_dec ble_dec beq_dec isPure
attribute [local simp] opMakeSlice opCopy opIndexAddr opLoad opStore St.mem St.rows opUn calleeA toArgs toArg toArg0 toArgs0 shift shift0 shift1 splice cellsOf isFree ofCells TS.isAgg isCell strBin opConvert
attribute [local simp] opSlice3 opClear fz_clear opBuildSlice fillA opAppend eqC eqA cksB ckB St.newBox runI valKind withinB readsHp refsD refs noSl opFieldAddr opBuild opMax opMin placeOf Op.operands Call.operands opIndex opExtract opSlice opField partA
attribute [local simp] loA hiA lenA opMakeMap opLookup opMapUpdate keyOk findA_int findA_str findA_bool putA_strB putA_strI putA_strS putA_intB putA_intI putA_intS putA_boolI putA_boolB byteRow_rwN bytesOf_rwN opBytesStr mAV_length mAV_nil cA1 cA2 cA3 cA4 opNilCheck opMakeFunc opRange
attribute [local simp] aL cI cB cS cL rw_map fz_rw fz_const dropRow_rw fz_append fz_set fz_copy fz_rows rowLen_rw rowsLen_nil rowsLen_cons rowsLen_append rowsLen_map rowsLen_dm rowsLen_tm rowsLen_take rowsLen_drop rowsLen_replicate take_map_len take_map_le drop_map_len take_drop_len chunks isScalar isScalar0
attribute [local simp] putBack putAt objMap mapC mapA mapT map0 bid rid memB passed closedB argsH argH argH0 argsH0 objIds ids0 idsC isLocT isLocA isLocC isLoc0 LocObj
attribute [local congr] bind_congr1 map_congr1 cond_congr1
attribute [local simp] cApiAddr cApiContact cApiCoil cApiRung cReducePair cReduceEdge cTreeTree_eq TreeTree_Kind_mk TreeTree_N_mk TreeTree_Kids_mk eta_TreeTree cRef14Tree_eq Ref14Tree_Kind_mk Ref14Tree_N_mk Ref14Tree_Kids_mk eta_Ref14Tree
variable [Drawn]
set_option maxHeartbeats 4000000
set_option linter.unusedSectionVars false
set_option maxRecDepth 20000
set_option linter.unusedSimpArgs false
set_option linter.unusedVariables false

theorem con_reduce_Reduce {n : Nat} {_append0 : ApiRung} {r : TreeTree × Int} (h : reduce_Reduce n _append0 = some r) : Con Tryz.prog G0 10 [.agg (cApiRung _append0)] (.tup [.agg [.int .i64 r.1.Kind, .int .i64 r.1.N, aL cTreeTree r.1.Kids], .int .i64 r.2]) [] := by
  refine con_of (T := TT0) tt_ok Tryz.func10 (c := _) (by unfold Tryz.f10; rfl) Tryz.ntmps10 (rs := [.cell 2 30, .tmp 3]) (by rw [Tryz.results10]) (by unfold Tryz.f10; rfl) (by simp) ?_
  simp only [argsCh]
  have F := True.intro
  dsimp only [reduce_Reduce] at h
  refine rs0 ?_
  iterate 3 refine vp ?_
  refine vn ?_
  refine Wp.seq ?_
  refine rs0 ?_
  refine vp ?_
  obtain ⟨r3954, hr3953, h⟩ := obind h
  refine vc (con_flow_Check hr3953) ?_
  refine vp ?_
  refine vn ?_
  refine rs0 ?_
  iterate 2 refine vp ?_
  refine vn ?_
  refine sB h F (fun F h => ?_) fun F h => ?_
  refine cF ?_
  refine Wp.skip ?_
  refine sh ?_
  refine rs0 ?_
  refine vp ?_
  refine vn ?_
  refine jn (fun p3963 : List ReduceEdge => { ch := [(2, .hptr 0 0 0), (5, .sl 1 0 p3963.length)], hp := [.var [.int .i64 0, .int .i64 0, .nilsl], .arr 5 p3963.length (rw (p3963.map cReduceEdge))], base := 0, n := 69, cond := True, gl := G0 }) (fun x => reduce_Reduce_J1 n x = some r) ?_ ?_
  clear h
  rintro p3963 h
  dsimp only [reduce_Reduce_J1] at h
  try dsimp only
  refine jn (fun p4376 : List ReduceEdge => { ch := [(2, .hptr 0 0 0), (5, .sl 1 0 p4376.length)], hp := [.var [.int .i64 0, .int .i64 0, .nilsl], .arr 5 p4376.length (rw (p4376.map cReduceEdge))], base := 0, n := 69, cond := True, gl := G0 }) (fun x => reduce_Reduce_J2 n x = some r) ?_ ?_
  clear h
  rintro p4376 h
  dsimp only [reduce_Reduce_J2] at h
  try dsimp only
  refine Wp.seq ?_
  refine rs0 ?_
  iterate 4 refine vp ?_
  refine sB h F (fun F h => ?_) fun F h => ?_
  refine vg ?_
  refine eN (m := 0) h F fun x4377 F h => ?_
  refine vg ?_
  refine vg ?_
  refine vg ?_
  refine vg ?_
  refine vg ?_
  refine vp ?_
  refine vn ?_
  refine sB h F (fun F h => ?_) fun F h => ?_
  refine cF ?_
  refine Wp.skip ?_
  refine sh ?_
  refine rs0 ?_
  iterate 4 refine vp ?_
  obtain ⟨r4463, hr4462, h⟩ := obind h
  refine vc (con_reduce_sorted _ hr4462) ?_
  iterate 2 refine vp ?_
  refine vn ?_
  cases h
  exact Wp.ret en0
  refine cT ?_
  refine rs0 ?_
  iterate 3 refine vp ?_
  refine vn ?_
  cases h
  exact Wp.ret en0
  refine vs ?_
  refine vs ?_
  refine vs ?_
  refine vs ?_
  refine vs ?_
  refine vs ?_
  refine vp ?_
  refine vn ?_
  refine cT ?_
  refine rs0 ?_
  iterate 3 refine vp ?_
  refine vn ?_
  cases h
  exact Wp.ret en0
  refine rs0 ?_
  refine vp ?_
  refine vn ?_
  refine Wp.block ?_
  refine lp [some 0, some 1] (fun x : (List ReduceEdge) × Bool => { ch := [(2, .hptr 0 0 0), (5, .sl 1 0 x.1.length), (8, .bool x.2)], hp := [.var [.int .i64 0, .int .i64 0, .nilsl], .arr 5 x.1.length (rw (x.1.map cReduceEdge))], base := 0, n := 69, cond := True, gl := G0 }) (fun m x => reduce_Reduce_L3 n m x.1 x.2 = some r) n (p3963, true) h ?_
  rintro rec_n3 ⟨p4470, true4471⟩ h
  dsimp only [reduce_Reduce_L3] at h
  try dsimp only
  refine Wp.seq ?_
  refine rs0 ?_
  refine vp ?_
  refine vn ?_
  refine sB h F (fun F h => ?_) fun F h => ?_
  refine cF ?_
  refine Wp.exit ?_
  exact nx [some 0, some 1] p4470 h
  refine cT ?_
  refine Wp.skip ?_
  refine sh ?_
  refine Wp.block ?_
  refine rs0 ?_
  iterate 2 refine vp ?_
  refine vn ?_
  refine rs0 ?_
  refine vp ?_
  obtain ⟨⟨r4479, q4480⟩, hr4478, h⟩ := obind h
  dsimp only at h
  refine vh [1] (con_reduce_parallel_v1 hr4478) ?_
  iterate 5 refine vp ?_
  refine vn ?_
  refine rs0 ?_
  refine vp ?_
  obtain ⟨⟨r4482, q4483⟩, hr4481, h⟩ := obind h
  dsimp only at h
  refine vh [1] (con_reduce_series_v1 hr4481) ?_
  iterate 5 refine vp ?_
  refine vn ?_
  refine rg0 ?_
  iterate 2 refine vp ?_
  refine sB h F (fun F h => ?_) fun F h => ?_
  refine vg ?_
  iterate 2 refine vp ?_
  refine vn ?_
  exact nx [some 0, some 1] (q4483, r4482) h
  refine vs ?_
  iterate 2 refine vp ?_
  refine vn ?_
  exact nx [some 0, some 1] (q4483, true) h
  refine rs0 ?_
  iterate 4 refine vp ?_
  refine vn ?_
  refine Wp.block ?_
  refine lp [some 1, none] (fun x : Int × (List ReduceEdge) => { ch := [(2, .hptr 0 0 0), (5, .sl 1 0 x.2.length), (18, aL cApiContact _append0.Contacts), (19, .int .i64 (_append0.Contacts.length : Int)), (20, .int .i64 x.1)], hp := [.var [.int .i64 0, .int .i64 0, .nilsl], .arr 5 x.2.length (rw (x.2.map cReduceEdge))], base := 0, n := 69, cond := True, gl := G0 }) (fun m x => reduce_Reduce_L4 n _append0 m x.1 x.2 = some r) n (0, []) h ?_
  rintro rec_n4 ⟨p4486, p4487⟩ h
  dsimp only [reduce_Reduce_L4] at h
  try dsimp only
  refine rs0 ?_
  refine vp ?_
  refine vn ?_
  refine Wp.seq ?_
  refine sD h F (fun F h => ?_) fun F h => ?_
  refine cF ?_
  refine Wp.exit ?_
  exact nx [some 0, some 1] p4487 h
  refine cT ?_
  refine Wp.skip ?_
  refine sh ?_
  refine Wp.seq ?_
  refine Wp.block ?_
  refine rs0 ?_
  refine vp ?_
  refine eI h F fun x4490 F h => ?_
  iterate 5 refine vp ?_
  refine vn ?_
  refine rg (fun d => Nat.beq d 35) ?_
  iterate 9 refine vp ?_
  refine vl [some 0, some 1, some 2] { ch := [(2, .hptr 0 0 0), (5, .sl 1 0 p4487.length), (6, .int .i64 p4486), (7, .hptr 2 0 0), (18, aL cApiContact _append0.Contacts), (19, .int .i64 (_append0.Contacts.length : Int)), (20, .int .i64 p4486), (21, .bool (decide (p4486 < (_append0.Contacts.length : Int)))), (22, .int .i64 p4486), (23, .fptr [.int .i64 x4490.Kind, .int .i64 x4490.A.Space, .int .i64 x4490.A.N, .str x4490.From, .str x4490.To]), (24, .agg [.int .i64 x4490.Kind, .int .i64 x4490.A.Space, .int .i64 x4490.A.N, .str x4490.From, .str x4490.To]), (25, .sl 1 0 p4487.length), (26, .hptr 2 0 3), (27, .str x4490.From), (28, .hptr 2 0 4), (29, .str x4490.To), (30, .agg [.str x4490.From, .str x4490.To]), (31, .int .i64 p4486), (32, .agg [.int .i64 0, .int .i64 p4486, aL cTreeTree ([] : List TreeTree)]), (33, .agg [.str x4490.From, .str x4490.To, .int .i64 0, .int .i64 p4486, aL cTreeTree ([] : List TreeTree)])], hp := [.var [.int .i64 0, .int .i64 0, .nilsl], .arr 5 p4487.length (rw (p4487.map cReduceEdge)), .var [.int .i64 x4490.Kind, .int .i64 x4490.A.Space, .int .i64 x4490.A.N, .str x4490.From, .str x4490.To]], base := 0, n := 69, cond := True, gl := G0 } ?_
  refine vp ?_
  refine gd h F fun F h => ?_
  refine vp ?_
  refine nm cReduceEdge h F fun l4491 F h => ?_
  refine vp ?_
  refine vn ?_
  refine sh ?_
  refine rg0 ?_
  iterate 2 refine vp ?_
  refine vn ?_
  exact nx [some 0, some 3] ((IntKind.i64.wrap (p4486 + 1)), l4491) h
  refine cT ?_
  refine rs0 ?_
  iterate 4 refine vp ?_
  refine vn ?_
  cases h
  exact Wp.ret en0

end Go.Proofs.YtaebdeidbibfkaaGreatDoor

/- Contracts: models of functions are right. No law is proved here. -/
import Derived.Test.YtaebdeidbibfkaaDoorJGMod
import Derived.Test.YtaebdeidbibfkaaDoorJTaj
import Derived.Test.YtaebdeidbibfkaaDoorJSo
import Derived.Test.YtaebdeidbibfkaaDoorJGC0
import Derived.Test.YtaebdeidbibfkaaDoorJGC1
import Derived.Test.YtaebdeidbibfkaaDoorJGC4
import Derived.Test.YtaebdeidbibfkaaDoorJGC5
import Derived.Test.YtaebdeidbibfkaaDoorJGC6
namespace Go.Proofs.YtaebdeidbibfkaaDoor
open Go.Av Go.G
attribute [-simp] Int.natCast_tdiv_eq_ediv
attribute [local simp] runf guardA opf St.ev Go.Av.look St.setd constAV constAV0 opBin opLen intBin St.need lookT TT0 tab resA resOne resAll blt_dec ble_dec beq_dec isPure
attribute [local simp] opMakeSlice opCopy opIndexAddr opLoad opStore St.mem St.rows opUn calleeA toArgs toArg toArg0 toArgs0 shift shift0 shift1 splice cellsOf isFree ofCells TS.isAgg isCell strBin opConvert
attribute [local simp] opSlice3 opClear fz_clear opBuildSlice fillA opAppend eqC eqA cksB ckB St.newBox runI valKind withinB readsHp refsD refs noSl opFieldAddr opBuild opMax opMin placeOf Op.operands Call.operands opIndex opExtract opSlice opField partA
attribute [local simp] loA hiA lenA opMakeMap opLookup opMapUpdate keyOk findA_int findA_str findA_bool putA_strB putA_strI putA_strS putA_intB putA_intI putA_intS putA_boolI putA_boolB byteRow_rwN bytesOf_rwN opBytesStr mAV_length mAV_nil cA1 cA2 cA3 cA4 opNilCheck opMakeFunc opRange
attribute [local simp] aL cI cB cS cL rw_map fz_rw fz_const dropRow_rw fz_append fz_set fz_copy fz_rows rowLen_rw rowsLen_nil rowsLen_cons rowsLen_append rowsLen_map rowsLen_dm rowsLen_tm rowsLen_take rowsLen_drop rowsLen_replicate take_map_len take_map_le drop_map_len take_drop_len chunks isScalar isScalar0
attribute [local simp] putBack putAt objMap mapC mapA mapT map0 bid rid memB passed closedB argsH argH argH0 argsH0 objIds ids0 idsC isLocT isLocA isLocC isLoc0 LocObj
attribute [local congr] bind_congr1 map_congr1 cond_congr1
attribute [local simp] cApiAddr cApiContact cApiCoil cApiRung cApiIns cApiLadder cApiSize cApiProgram cReducePair cReduceEdge cTreeTree_eq TreeTree_Kind_mk TreeTree_N_mk TreeTree_Kids_mk eta_TreeTree
variable [Drawn]
set_option maxHeartbeats 4000000
set_option linter.unusedSectionVars false
set_option maxRecDepth 20000
set_option linter.unusedSimpArgs false
set_option linter.unusedVariables false
theorem con_reduce_parallel_v1 {n : Nat} {l0 : List ReduceEdge} {r : Bool × (List ReduceEdge)} (h : reduce_parallel_v1 n l0 = some r) : ConH Tryd.prog G0 29 [.sl 0 0 l0.length] [.arr 5 l0.length (rw (l0.map cReduceEdge))] (.tup [.sl 0 0 r.2.length, .bool r.1]) [.arr 5 r.2.length (rw (r.2.map cReduceEdge))] := by
  refine conH_of (T := TT0) tt_ok Tryd.func29 (c := _) (by unfold Tryd.f29; rfl) Tryd.ntmps29 (rs := [.tmp 2, .tmp 3]) (by rw [Tryd.results29]) (by unfold Tryd.f29; rfl) (by simp) (k := 1) rfl rfl ?_
  try simp only [argsCh]
  have F := True.intro
  dsimp only [reduce_parallel_v1] at h
  refine rs0 ?_
  iterate 2 refine vp ?_
  refine vn ?_
  refine Wp.seq ?_
  refine rs0 ?_
  iterate 3 refine vp ?_
  refine vn ?_
  refine Wp.block ?_
  refine lp [some 0] (fun p14848 : Int => { ch := [(0, .sl 0 0 l0.length), (7, .sl 0 0 l0.length), (8, .int .i64 (l0.length : Int)), (9, .int .i64 p14848)], hp := [.arr 5 l0.length (rw (l0.map cReduceEdge))], base := 1, n := 49, cond := True, gl := G0 }) (fun m x => reduce_parallel_v1_L1 n l0 m x = some r) n 0 h ?_
  rintro rec_n1 p14848 h
  dsimp only [reduce_parallel_v1_L1] at h
  try dsimp only
  refine rs0 ?_
  refine vp ?_
  refine vn ?_
  refine Wp.seq ?_
  refine sD h F (fun F h => ?_) fun F h => ?_
  refine cF ?_
  refine Wp.exit ?_
  refine sh ?_
  refine rs0 ?_
  iterate 3 refine vp ?_
  refine vn ?_
  cases h
  exact Wp.ret (enH [some 0])
  refine cT ?_
  refine Wp.skip ?_
  refine sh ?_
  refine Wp.seq ?_
  refine Wp.block ?_
  refine rs0 ?_
  refine vp ?_
  refine eI h F fun x14858 F h => ?_
  iterate 5 refine vp ?_
  refine vn ?_
  refine rs0 ?_
  iterate 3 refine vp ?_
  refine gd h F fun F h => ?_
  iterate 2 refine vp ?_
  obtain ⟨r14860, hr14859, h⟩ := obind h
  refine vh [0, 1] (con_slices_IndexFunc_reduce_edge_c50_v1 hr14859) ?_
  refine vp ?_
  refine vn ?_
  refine rs0 ?_
  iterate 2 refine vp ?_
  refine vn ?_
  refine sD h F (fun F h => ?_) fun F h => ?_
  refine cF ?_
  refine Wp.skip ?_
  refine sh ?_
  refine rg0 ?_
  iterate 2 refine vp ?_
  refine vn ?_
  exact nx [some 0] (IntKind.i64.wrap (p14848 + 1)) h
  refine cT ?_
  refine dw (fun _ => false) [0, 1] ?_
  refine du 9 ?_
  refine eI h F fun x14861 F h => ?_
  refine du 3 ?_
  obtain ⟨r14863, hr14862, h⟩ := obind h
  refine dc (con_reduce_join hr14862) ?_
  refine du 2 ?_
  refine db ?_
  refine nm cReduceEdge h F fun l14864 F h => ?_
  refine dn ?_
  refine rs0 ?_
  iterate 9 refine vp ?_
  obtain ⟨q14866, hr14865, h⟩ := obind h
  refine vh [0] (con_slices_Delete_reduce_edge_v1 hr14865) ?_
  iterate 2 refine vp ?_
  refine vn ?_
  cases h
  exact Wp.ret (enH [some 0])
theorem con_slices_ContainsFunc_int_c75 {n : Nat} {s0 : List Int} {m1 : List (Str × Bool)} {b2 : ApiRung} {r : Bool} (h : slices_ContainsFunc_int_c75 n s0 m1 b2 = some r) : ConH Tryd.prog G0 73 [aL (cI .i64) s0, .clos 75 [] [.hptr 0 0 0, .hptr 2 0 0]] [.var [.mp 1], .map (mAV AV.str cB m1), .var [.str b2.Label, aL cApiContact b2.Contacts, aL cApiCoil b2.Coils, .str b2.Jump]] (.bool r) [.var [.mp 1], .map (mAV AV.str cB m1), .var [.str b2.Label, aL cApiContact b2.Contacts, aL cApiCoil b2.Coils, .str b2.Jump]] := by
  refine conH_of (T := TT0) tt_ok Tryd.func73 (c := _) (by unfold Tryd.f73; rfl) Tryd.ntmps73 (rs := [.tmp 4]) (by rw [Tryd.results73]) (by unfold Tryd.f73; rfl) (by simp) (k := 3) rfl rfl ?_
  try simp only [argsCh]
  have F := True.intro
  dsimp only [slices_ContainsFunc_int_c75] at h
  refine rs0 ?_
  refine vp ?_
  refine vn ?_
  refine rs0 ?_
  iterate 2 refine vp ?_
  obtain ⟨r13236, hr13235, h⟩ := obind h
  refine vh [0, 1, 2] (con_slices_IndexFunc_int_c75 hr13235) ?_
  iterate 2 refine vp ?_
  refine vn ?_
  cases h
  exact Wp.ret (enH [some 0, some 1, some 2])
theorem con_slices_ContainsFunc_api_Rung_c90 {n : Nat} {s0 : List ApiRung} {b0 : ApiRung} {r : Bool} (h : slices_ContainsFunc_api_Rung_c90 n s0 b0 = some r) : ConH Tryd.prog G0 89 [aL cApiRung s0, .clos 90 [] [.hptr 0 0 0]] [.var [.str b0.Label, aL cApiContact b0.Contacts, aL cApiCoil b0.Coils, .str b0.Jump]] (.bool r) [.var [.str b0.Label, aL cApiContact b0.Contacts, aL cApiCoil b0.Coils, .str b0.Jump]] := by
  refine conH_of (T := TT0) tt_ok Tryd.func89 (c := _) (by unfold Tryd.f89; rfl) Tryd.ntmps89 (rs := [.tmp 4]) (by rw [Tryd.results89]) (by unfold Tryd.f89; rfl) (by simp) (k := 1) rfl rfl ?_
  try simp only [argsCh]
  have F := True.intro
  dsimp only [slices_ContainsFunc_api_Rung_c90] at h
  refine rs0 ?_
  refine vp ?_
  refine vn ?_
  refine rs0 ?_
  iterate 2 refine vp ?_
  obtain ⟨r10898, hr10897, h⟩ := obind h
  refine vh [0] (con_slices_IndexFunc_api_Rung_c90 hr10897) ?_
  iterate 2 refine vp ?_
  refine vn ?_
  cases h
  exact Wp.ret (enH [some 0])
theorem con_graph_Outgoing {n : Nat} {r_0 : ApiRung} {node1 : Str} {r : (List Int)} (h : graph_Outgoing n r_0 node1 = some r) : Con Tryd.prog G0 102 [.agg (cApiRung r_0), .str node1] (aL (cI .i64) r) [] := by
  refine con_of (T := TT0) tt_ok Tryd.func102 (c := _) (by unfold Tryd.f102; rfl) Tryd.ntmps102 (rs := [.tmp 4]) (by rw [Tryd.results102]) (by unfold Tryd.f102; rfl) (by simp) ?_
  simp only [argsCh]
  have F := True.intro
  dsimp only [graph_Outgoing] at h
  refine rs0 ?_
  iterate 3 refine vp ?_
  refine vn ?_
  refine rs0 ?_
  iterate 2 refine vp ?_
  obtain ⟨r14284, hr14283, h⟩ := obind h
  refine vh [1] (con_graph_numbers_c129 hr14283) ?_
  refine vp ?_
  refine vn ?_
  cases h
  exact Wp.ret en0
end Go.Proofs.YtaebdeidbibfkaaDoor

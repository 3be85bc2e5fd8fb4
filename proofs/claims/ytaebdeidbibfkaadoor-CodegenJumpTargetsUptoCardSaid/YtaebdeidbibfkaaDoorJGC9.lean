/- Contracts: models of functions are right. No law is proved here. -/
import Derived.Test.YtaebdeidbibfkaaDoorJGMod
import Derived.Test.YtaebdeidbibfkaaDoorJTaj
import Derived.Test.YtaebdeidbibfkaaDoorJSo
import Derived.Test.YtaebdeidbibfkaaDoorJGC2
import Derived.Test.YtaebdeidbibfkaaDoorJGC3
import Derived.Test.YtaebdeidbibfkaaDoorJGC4
import Derived.Test.YtaebdeidbibfkaaDoorJGC5
import Derived.Test.YtaebdeidbibfkaaDoorJGC6
namespace Go.Proofs.YtaebdeidbibfkaaDoor
open Go.Av Go.G
attribute [-simp] Int.natCast_tdiv_eq_ediv
attribute [local simp] runf guardA opf St.ev Go.Av.look St.setd constAV constAV0 opBin opLen intBin St.need lookT TT0 tab resA resOne resAll blt_dec ble_dec beq_dec isPure
attribute [local simp] opMakeSlice opCopy opIndexAddr opLoad opStore St.mem St.rows opUn calleeA toArgs toArg toArg0 toArgs0 shift shift0 shift1 splice cellsOf isFree ofCells TS.isAgg isCell strBin opConvert
attribute [local simp] opSlice3 opClear fz_clear opBuildSlice fillA opAppend eqC eqA cksB ckB St.newBox runI valKind withinB readsHp refsD refs noSl opFieldAddr opBuild opMax opMin placeOf Op.operands Call.operands opIndex opExtract opSlice opField partA
attribute [local simp] loA hiA lenA opMakeMap opLookup opMapUpdate keyOk findA_int findA_str findA_bool putA_strB putA_strI putA_strS putA_intB putA_intI putA_intS putA_boolI putA_boolB byteRow_rwN bytesOf_rwN opBytesStr mAV_length mAV_nil cA1 cA2 cA3 cA4 opNilCheck opMakeFunc opRange
attribute [local simp] aL cI cB cS cL rw_map fz_rw fz_const dropRow_rw fz_append fz_set fz_copy fz_rows rowLen_rw rowsLen_nil rowsLen_cons rowsLen_append rowsLen_map rowsLen_dm rowsLen_tm rowsLen_take rowsLen_drop rowsLen_replicate take_map_len take_map_le drop_map_len take_drop_len chunks isScalar isScalar0
attribute [local simp] putBack putAt objMap mapC mapA mapT map0 bid rid memB passed closedB argsH argH argH0 argsH0 objIds ids0 idsC isLocT isLocA isLocC isLoc0 LocObj
attribute [local congr] bind_congr1 map_congr1 cond_congr1
attribute [local simp] cApiAddr cApiContact cApiCoil cApiRung cApiIns cApiLadder cApiSize cApiProgram cReducePair cReduceEdge cTreeTree_eq TreeTree_Kind_mk TreeTree_N_mk TreeTree_Kids_mk eta_TreeTree
variable [Drawn]
set_option maxHeartbeats 4000000
set_option linter.unusedSectionVars false
set_option maxRecDepth 20000
set_option linter.unusedSimpArgs false
set_option linter.unusedVariables false
theorem con_printer_part {n : Nat} {s0 : ApiSize} {kind1 : Int} {a2 : ApiAddr} {r : Int} (h : printer_part n s0 kind1 a2 = some r) : Con Tryd.prog G0 118 [.agg (cApiSize s0), .int .i64 kind1, .agg (cApiAddr a2)] (.int .i64 r) [] := by
  refine con_of (T := TT0) tt_ok Tryd.func118 (c := _) (by unfold Tryd.f118; rfl) Tryd.ntmps118 (rs := [.tmp 6]) (by rw [Tryd.results118]) (by unfold Tryd.f118; rfl) (by simp) ?_
  simp only [argsCh]
  have F := True.intro
  dsimp only [printer_part] at h
  refine rs0 ?_
  iterate 3 refine vp ?_
  refine vn ?_
  refine Wp.seq ?_
  refine rs0 ?_
  iterate 3 refine vp ?_
  refine sD h F (fun F h => ?_) fun F h => ?_
  refine vg ?_
  refine vg ?_
  refine vp ?_
  refine vn ?_
  refine sD h F (fun F h => ?_) fun F h => ?_
  refine cF ?_
  refine Wp.skip ?_
  refine sh ?_
  refine rs0 ?_
  iterate 2 refine vp ?_
  obtain ⟨r10780, hr10779, h⟩ := obind h
  refine vc (con_addr_CheckAddr hr10779) ?_
  refine vp ?_
  refine vn ?_
  cases h
  exact Wp.ret en0
  refine cT ?_
  refine rs0 ?_
  refine vp ?_
  refine vn ?_
  cases h
  exact Wp.ret en0
  refine vs ?_
  refine vs ?_
  refine vp ?_
  refine vn ?_
  refine cT ?_
  refine rs0 ?_
  refine vp ?_
  refine vn ?_
  cases h
  exact Wp.ret en0
theorem con_flow_DeadNodes_1 {n : Nat} {n_0 : Str} {b0 : List Str} {b1 : List Str} {r : Bool} (h : flow_DeadNodes_1 n n_0 b0 b1 = some r) : ConH Tryd.prog G0 80 [.str n_0, .hptr 0 0 0, .hptr 1 0 0] [.var [aL cS b0], .var [aL cS b1]] (.bool r) [.var [aL cS b0], .var [aL cS b1]] := by
  refine conH_of (T := TT0) tt_ok Tryd.func80 (c := _) (by unfold Tryd.f80; rfl) Tryd.ntmps80 (rs := [.tmp 4]) (by rw [Tryd.results80]) (by unfold Tryd.f80; rfl) (by simp) (k := 2) rfl rfl ?_
  try simp only [argsCh]
  have F := True.intro
  dsimp only [flow_DeadNodes_1] at h
  refine rs0 ?_
  refine vp ?_
  refine vn ?_
  refine rs0 ?_
  iterate 2 refine vp ?_
  obtain ⟨r14687, hr14686, h⟩ := obind h
  refine vc (con_slices_Contains_string hr14686) ?_
  refine vp ?_
  refine sB h F (fun F h => ?_) fun F h => ?_
  refine vs ?_
  refine vs ?_
  refine vs ?_
  iterate 2 refine vp ?_
  refine vn ?_
  cases h
  exact Wp.ret (enH [some 0, some 1])
  refine vg ?_
  refine vg ?_
  obtain ⟨r14689, hr14688, h⟩ := obind h
  refine vc (con_slices_Contains_string hr14688) ?_ (hg := by (simp [F]; done))
  iterate 2 refine vp ?_
  refine vn ?_
  cases h
  exact Wp.ret (enH [some 0, some 1])
theorem con_reduce_sorted_1 {n : Nat} {a0 : TreeTree} {b1 : TreeTree} {r : Int} (h : reduce_sorted_1 n a0 b1 = some r) : Con Tryd.prog G0 54 [.agg [.int .i64 a0.Kind, .int .i64 a0.N, aL cTreeTree a0.Kids], .agg [.int .i64 b1.Kind, .int .i64 b1.N, aL cTreeTree b1.Kids]] (.int .i64 r) [] := by
  refine con_of (T := TT0) tt_ok Tryd.func54 (c := _) (by unfold Tryd.f54; rfl) Tryd.ntmps54 (rs := [.tmp 4]) (by rw [Tryd.results54]) (by unfold Tryd.f54; rfl) (by simp) ?_
  simp only [argsCh]
  have F := True.intro
  dsimp only [reduce_sorted_1] at h
  refine rs0 ?_
  iterate 3 refine vp ?_
  refine vn ?_
  refine dw (fun _ => false) [0, 1] ?_
  refine du 1 ?_
  obtain ⟨r15141, hr15140, h⟩ := obind h
  refine dc (con_tree_Leaves _ hr15140) ?_
  obtain ⟨r15149, hr15148, h⟩ := obind h
  refine dc (con_slices_Min_int hr15148) ?_
  refine du 1 ?_
  obtain ⟨r15151, hr15150, h⟩ := obind h
  refine dc (con_tree_Leaves _ hr15150) ?_
  obtain ⟨r15153, hr15152, h⟩ := obind h
  refine dc (con_slices_Min_int hr15152) ?_
  obtain ⟨r15159, hr15158, h⟩ := obind h
  refine dc (con_cmp_Compare_int hr15158) ?_
  refine du 1 ?_
  refine dn ?_
  cases h
  exact Wp.ret en0
theorem con_slices_ContainsFunc_api_Rung_c117 {n : Nat} {s0 : List ApiRung} {b0 : ApiRung} {r : Bool} (h : slices_ContainsFunc_api_Rung_c117 n s0 b0 = some r) : ConH Tryd.prog G0 89 [aL cApiRung s0, .clos 117 [] [.hptr 0 0 0]] [.var [.str b0.Label, aL cApiContact b0.Contacts, aL cApiCoil b0.Coils, .str b0.Jump]] (.bool r) [.var [.str b0.Label, aL cApiContact b0.Contacts, aL cApiCoil b0.Coils, .str b0.Jump]] := by
  refine conH_of (T := TT0) tt_ok Tryd.func89 (c := _) (by unfold Tryd.f89; rfl) Tryd.ntmps89 (rs := [.tmp 4]) (by rw [Tryd.results89]) (by unfold Tryd.f89; rfl) (by simp) (k := 1) rfl rfl ?_
  try simp only [argsCh]
  have F := True.intro
  dsimp only [slices_ContainsFunc_api_Rung_c117] at h
  refine rs0 ?_
  refine vp ?_
  refine vn ?_
  refine rs0 ?_
  iterate 2 refine vp ?_
  obtain ⟨r10769, hr10768, h⟩ := obind h
  refine vh [0] (con_slices_IndexFunc_api_Rung_c117 hr10768) ?_
  iterate 2 refine vp ?_
  refine vn ?_
  cases h
  exact Wp.ret (enH [some 0])
theorem con_slices_ContainsFunc_api_Contact_c36 {n : Nat} {s0 : List ApiContact} {r : Bool} (h : slices_ContainsFunc_api_Contact_c36 n s0 = some r) : Con Tryd.prog G0 35 [aL cApiContact s0, .clos 36 [] []] (.bool r) [] := by
  refine con_of (T := TT0) tt_ok Tryd.func35 (c := _) (by unfold Tryd.f35; rfl) Tryd.ntmps35 (rs := [.tmp 4]) (by rw [Tryd.results35]) (by unfold Tryd.f35; rfl) (by simp) ?_
  simp only [argsCh]
  have F := True.intro
  dsimp only [slices_ContainsFunc_api_Contact_c36] at h
  refine rs0 ?_
  refine vp ?_
  refine vn ?_
  refine rs0 ?_
  iterate 2 refine vp ?_
  obtain ⟨r15359, hr15358, h⟩ := obind h
  refine vc (con_slices_IndexFunc_api_Contact_c36 hr15358) ?_
  iterate 2 refine vp ?_
  refine vn ?_
  cases h
  exact Wp.ret en0
end Go.Proofs.YtaebdeidbibfkaaDoor

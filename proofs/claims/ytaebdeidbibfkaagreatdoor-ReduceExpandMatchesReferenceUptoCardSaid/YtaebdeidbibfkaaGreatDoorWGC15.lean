/- Contracts: models of functions are right. No law is proved here. -/
import Derived.Test.YtaebdeidbibfkaaGreatDoorWGMod
import Derived.Test.YtaebdeidbibfkaaGreatDoorWTaw
import Derived.Test.YtaebdeidbibfkaaGreatDoorWSoz
import Derived.Test.YtaebdeidbibfkaaGreatDoorWShw
import Derived.Test.YtaebdeidbibfkaaGreatDoorWGC3
import Derived.Test.YtaebdeidbibfkaaGreatDoorWGC12
import Derived.Test.YtaebdeidbibfkaaGreatDoorWGC14
namespace Go.Proofs.YtaebdeidbibfkaaGreatDoor
open Go.Av Go.G
attribute [-simp] Int.natCast_tdiv_eq_ediv
attribute [local simp] runf guardA opf St.ev Go.Av.look St.setd constAV constAV0 opBin opLen intBin St.need lookT TT0 tab resA resOne resAll blt_dec ble_dec beq_dec isPure
attribute [local simp] opMakeSlice opCopy opIndexAddr opLoad opStore St.mem St.rows opUn calleeA toArgs toArg toArg0 toArgs0 shift shift0 shift1 splice cellsOf isFree ofCells TS.isAgg isCell strBin opConvert
attribute [local simp] opSlice3 opClear fz_clear opBuildSlice fillA opAppend eqC eqA cksB ckB St.newBox runI valKind withinB readsHp refsD refs noSl opFieldAddr opBuild opMax opMin placeOf Op.operands Call.operands opIndex opExtract opSlice opField partA
attribute [local simp] loA hiA lenA opMakeMap opLookup opMapUpdate keyOk findA_int findA_str findA_bool putA_strB putA_strI putA_strS putA_intB putA_intI putA_intS putA_boolI putA_boolB byteRow_rwN bytesOf_rwN opBytesStr mAV_length mAV_nil cA1 cA2 cA3 cA4 opNilCheck opMakeFunc opRange
attribute [local simp] aL cI cB cS cL rw_map fz_rw fz_const dropRow_rw fz_append fz_set fz_copy fz_rows rowLen_rw rowsLen_nil rowsLen_cons rowsLen_append rowsLen_map rowsLen_dm rowsLen_tm rowsLen_take rowsLen_drop rowsLen_replicate take_map_len take_map_le drop_map_len take_drop_len chunks isScalar isScalar0
attribute [local simp] putBack putAt objMap mapC mapA mapT map0 bid rid memB passed closedB argsH argH argH0 argsH0 objIds ids0 idsC isLocT isLocA isLocC isLoc0 LocObj
attribute [local congr] bind_congr1 map_congr1 cond_congr1
attribute [local simp] cApiAddr cApiContact cApiCoil cApiRung cReducePair cReduceEdge cTreeTree_eq TreeTree_Kind_mk TreeTree_N_mk TreeTree_Kids_mk eta_TreeTree cRef14Tree_eq Ref14Tree_Kind_mk Ref14Tree_N_mk Ref14Tree_Kids_mk eta_Ref14Tree
variable [Drawn]
set_option maxHeartbeats 4000000
set_option linter.unusedSectionVars false
set_option maxRecDepth 20000
set_option linter.unusedSimpArgs false
set_option linter.unusedVariables false

theorem con_flow_DeadNodes {n : Nat} {r_0 : ApiRung} {r : (List Str)} (h : flow_DeadNodes n r_0 = some r) : Con Tryz.prog G0 64 [.agg (cApiRung r_0)] (aL cS r) [] := by
  refine con_of (T := TT0) tt_ok Tryz.func64 (c := _) (by unfold Tryz.f64; rfl) Tryz.ntmps64 (rs := [.tmp 2]) (by rw [Tryz.results64]) (by unfold Tryz.f64; rfl) (by simp) ?_
  simp only [argsCh]
  have F := True.intro
  dsimp only [flow_DeadNodes] at h
  refine rs0 ?_
  iterate 2 refine vp ?_
  refine vn ?_
  refine rl [some 0, none, none] { ch := [(1, .hptr 0 0 0), (2, .nilsl)], hp := [.var [.str r_0.Label, aL cApiContact r_0.Contacts, aL cApiCoil r_0.Coils, .str r_0.Jump], .slot, .slot], base := 0, n := 13, cond := True, gl := G0 } ?_
  refine dz [1, 2] (fun d => Nat.beq d 3 || Nat.beq d 4) [0] ?_
  refine du 1 ?_
  obtain ⟨r3640, hr3639, h⟩ := obind h
  refine dc (con_graph_Reachable hr3639) ?_
  refine du 1 ?_
  obtain ⟨r3845, hr3844, h⟩ := obind h
  refine dc (con_graph_Ancestors hr3844) ?_
  refine dl 1 ?_
  refine dl 2 ?_
  refine db ?_
  refine db ?_
  refine dn ?_
  refine rs (fun d => Nat.beq d 10) ?_
  refine vp ?_
  obtain ⟨r3847, hr3846, h⟩ := obind h
  refine vc (con_graph_Nodes_o0 hr3846) ?_
  refine vp ?_
  obtain ⟨q3948, hr3947, h⟩ := obind h
  refine vh [3, 1, 2] (con_slices_DeleteFunc_string_c107 hr3947) ?_
  refine vp ?_
  refine vn ?_
  cases h
  exact Wp.ret en0

end Go.Proofs.YtaebdeidbibfkaaGreatDoor

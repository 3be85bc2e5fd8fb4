/- Contracts: models of functions are right. No law is proved here. -/
import Derived.Test.YtaebdeidbibfkaaGreatDoorWGMod
import Derived.Test.YtaebdeidbibfkaaGreatDoorWTaw
import Derived.Test.YtaebdeidbibfkaaGreatDoorWSoz
import Derived.Test.YtaebdeidbibfkaaGreatDoorWShw
import Derived.Test.YtaebdeidbibfkaaGreatDoorWGC0
import Derived.Test.YtaebdeidbibfkaaGreatDoorWGC2
import Derived.Test.YtaebdeidbibfkaaGreatDoorWGC3
import Derived.Test.YtaebdeidbibfkaaGreatDoorWGC7
import Derived.Test.YtaebdeidbibfkaaGreatDoorWGC8
import Derived.Test.YtaebdeidbibfkaaGreatDoorWGC10
import Derived.Test.YtaebdeidbibfkaaGreatDoorWGC12
namespace Go.Proofs.YtaebdeidbibfkaaGreatDoor
open Go.Av Go.G
attribute [-simp] Int.natCast_tdiv_eq_ediv
attribute [local simp] runf guardA opf St.ev Go.Av.look St.setd constAV constAV0 opBin opLen intBin St.need lookT TT0 tab resA resOne resAll blt_dec ble_dec beq_dec isPure
attribute [local simp] opMakeSlice opCopy opIndexAddr opLoad opStore St.mem St.rows opUn calleeA toArgs toArg toArg0 toArgs0 shift shift0 shift1 splice cellsOf isFree ofCells TS.isAgg isCell strBin opConvert
attribute [local simp] opSlice3 opClear fz_clear opBuildSlice fillA opAppend eqC eqA cksB ckB St.newBox runI valKind withinB readsHp refsD refs noSl opFieldAddr opBuild opMax opMin placeOf Op.operands Call.operands opIndex opExtract opSlice opField partA
attribute [local simp] loA hiA lenA opMakeMap opLookup opMapUpdate keyOk findA_int findA_str findA_bool putA_strB putA_strI putA_strS putA_intB putA_intI putA_intS putA_boolI putA_boolB byteRow_rwN bytesOf_rwN opBytesStr mAV_length mAV_nil cA1 cA2 cA3 cA4 opNilCheck opMakeFunc opRange
attribute [local simp] aL cI cB cS cL rw_map fz_rw fz_const dropRow_rw fz_append fz_set fz_copy fz_rows rowLen_rw rowsLen_nil rowsLen_cons rowsLen_append rowsLen_map rowsLen_dm rowsLen_tm rowsLen_take rowsLen_drop rowsLen_replicate take_map_len take_map_le drop_map_len take_drop_len chunks isScalar isScalar0
attribute [local simp] putBack putAt objMap mapC mapA mapT map0 bid rid memB passed closedB argsH argH argH0 argsH0 objIds ids0 idsC isLocT isLocA isLocC isLoc0 LocObj
attribute [local congr] bind_congr1 map_congr1 cond_congr1
attribute [local simp] cApiAddr cApiContact cApiCoil cApiRung cReducePair cReduceEdge cTreeTree_eq TreeTree_Kind_mk TreeTree_N_mk TreeTree_Kids_mk eta_TreeTree cRef14Tree_eq Ref14Tree_Kind_mk Ref14Tree_N_mk Ref14Tree_Kids_mk eta_Ref14Tree
variable [Drawn]
set_option maxHeartbeats 4000000
set_option linter.unusedSectionVars false
set_option maxRecDepth 20000
set_option linter.unusedSimpArgs false
set_option linter.unusedVariables false

theorem con_graph_TopoSort {n : Nat} {r_0 : ApiRung} {r : (List Str) × Int} (h : graph_TopoSort n r_0 = some r) : Con Tryz.prog G0 63 [.agg (cApiRung r_0)] (.tup [aL cS r.1, .int .i64 r.2]) [] := by
  refine con_of (T := TT0) tt_ok Tryz.func63 (c := _) (by unfold Tryz.f63; rfl) Tryz.ntmps63 (rs := [.tmp 2, .tmp 3]) (by rw [Tryz.results63]) (by unfold Tryz.f63; rfl) (by simp) ?_
  simp only [argsCh]
  have F := True.intro
  dsimp only [graph_TopoSort] at h
  refine rs0 ?_
  iterate 3 refine vp ?_
  refine vn ?_
  refine rs (fun d => Nat.beq d 9) ?_
  refine vp ?_
  obtain ⟨r2366, hr2365, h⟩ := obind h
  refine vc (con_graph_Nodes_o0 hr2365) ?_
  refine vp ?_
  refine vn ?_
  refine rs0 ?_
  iterate 3 refine vp ?_
  refine vn ?_
  refine rs0 ?_
  refine vp ?_
  refine vn ?_
  refine Wp.seq ?_
  refine Wp.block ?_
  refine lp [some 0, some 1, some 3, some 2, none] (fun x : (List Str) × (List (Str × Bool)) × (List Str) => { ch := [(1, .hptr 0 0 0), (4, .sl 1 0 x.1.length), (5, .hptr 2 0 0), (6, .sl 4 0 x.2.2.length)], hp := [.var [.str r_0.Label, aL cApiContact r_0.Contacts, aL cApiCoil r_0.Coils, .str r_0.Jump], .arr 1 x.1.length (rw (x.1.map cS)), .var [.mp 3], .map (mAV AV.str cB x.2.1), .arr 1 x.2.2.length (rw (x.2.2.map cS))], base := 0, n := 37, cond := True, gl := G0 }) (fun m x => graph_TopoSort_L1 n r_0 m x.1 x.2.1 x.2.2 = some r) n (r2366, [], []) h ?_
  rintro rec_n1 ⟨r2468, p2469, p2470⟩ h
  dsimp only [graph_TopoSort_L1] at h
  try dsimp only
  refine Wp.seq ?_
  refine rs0 ?_
  iterate 3 refine vp ?_
  refine vn ?_
  refine sD h F (fun F h => ?_) fun F h => ?_
  refine cF ?_
  refine Wp.exit ?_
  refine sh ?_
  refine rs0 ?_
  iterate 3 refine vp ?_
  refine vn ?_
  cases h
  exact Wp.ret en0
  refine cT ?_
  refine Wp.skip ?_
  refine sh ?_
  refine Wp.block ?_
  refine rs0 ?_
  iterate 2 refine vp ?_
  obtain ⟨r2478, hr2477, h⟩ := obind h
  refine vh [1, 0, 2, 3] (con_slices_IndexFunc_string_c99_v1 hr2477) ?_
  refine vp ?_
  refine vn ?_
  refine Wp.seq ?_
  refine rs0 ?_
  iterate 2 refine vp ?_
  refine vn ?_
  refine sD h F (fun F h => ?_) fun F h => ?_
  refine cF ?_
  refine Wp.skip ?_
  refine sh ?_
  refine dw (fun _ => false) [1, 2, 3] ?_
  refine du 3 ?_
  refine eI h F fun x2479 F h => ?_
  refine du 2 ?_
  refine db ?_
  refine dn ?_
  refine rs (fun d => Nat.beq d 30) ?_
  iterate 6 refine vp ?_
  refine gd h F fun F h => ?_
  refine vp ?_
  refine nm cS h F fun l2480 F h => ?_
  refine vp ?_
  refine vn ?_
  refine rg0 ?_
  iterate 4 refine vp ?_
  obtain ⟨q2482, hr2481, h⟩ := obind h
  refine vh [1] (con_slices_Delete_string_v1 hr2481) ?_
  refine vp ?_
  refine vn ?_
  exact nx [some 0, some 1, some 2, some 3, some 5] (q2482, (mPut p2469 x2479 true), l2480) h
  refine cT ?_
  refine rs0 ?_
  iterate 2 refine vp ?_
  refine vn ?_
  cases h
  exact Wp.ret en0

theorem con_graph_gather_c136 {n : Nat} {r_0 : ApiRung} {node1 : Str} {b0 : ApiRung} {r : (List Str)} (h : graph_gather_c136 n r_0 node1 b0 = some r) : ConH Tryz.prog G0 135 [.agg (cApiRung r_0), .str node1, .clos 136 [] [.hptr 0 0 0]] [.var [.str b0.Label, aL cApiContact b0.Contacts, aL cApiCoil b0.Coils, .str b0.Jump]] (aL cS r) [.var [.str b0.Label, aL cApiContact b0.Contacts, aL cApiCoil b0.Coils, .str b0.Jump]] := by
  refine conH_of (T := TT0) tt_ok Tryz.func135 (c := _) (by unfold Tryz.f135; rfl) Tryz.ntmps135 (rs := [.tmp 6]) (by rw [Tryz.results135]) (by unfold Tryz.f135; rfl) (by simp) (k := 1) rfl rfl ?_
  try simp only [argsCh]
  have F := True.intro
  dsimp only [graph_gather_c136] at h
  refine rs0 ?_
  iterate 3 refine vp ?_
  refine vn ?_
  refine rs (fun d => Nat.beq d 11) ?_
  refine vp ?_
  obtain ⟨r3628, hr3627, h⟩ := obind h
  refine vc (con_graph_Nodes_o0 hr3627) ?_
  refine vp ?_
  refine vn ?_
  refine Wp.seq ?_
  refine rs0 ?_
  iterate 2 refine vp ?_
  obtain ⟨r3632, hr3631, h⟩ := obind h
  refine vc (con_slices_Contains_string hr3631) ?_
  refine vp ?_
  refine vn ?_
  refine sB h F (fun F h => ?_) fun F h => ?_
  refine cF ?_
  refine Wp.skip ?_
  refine sh ?_
  refine rs0 ?_
  iterate 3 refine vp ?_
  refine vn ?_
  refine rs0 ?_
  refine vp ?_
  refine vn ?_
  refine rs0 ?_
  iterate 2 refine vp ?_
  refine vn ?_
  refine rs0 ?_
  iterate 2 refine vp ?_
  obtain ⟨q3634, hr3633, h⟩ := obind h
  refine vh [5, 4, 2, 0, 6] (con_graph_gather_1_c136_166 _ hr3633) ?_
  refine vn ?_
  refine rs0 ?_
  iterate 2 refine vp ?_
  obtain ⟨q3636, hr3635, h⟩ := obind h
  refine vh [3, 5, 4] (con_slices_DeleteFunc_string_c167_v1 hr3635) ?_
  refine vp ?_
  refine vn ?_
  cases h
  exact Wp.ret (enH [some 0])
  refine cT ?_
  refine rs0 ?_
  refine vp ?_
  refine vn ?_
  cases h
  exact Wp.ret (enH [some 0])

theorem con_graph_gather_c138 {n : Nat} {r_0 : ApiRung} {node1 : Str} {b0 : ApiRung} {r : (List Str)} (h : graph_gather_c138 n r_0 node1 b0 = some r) : ConH Tryz.prog G0 135 [.agg (cApiRung r_0), .str node1, .clos 138 [] [.hptr 0 0 0]] [.var [.str b0.Label, aL cApiContact b0.Contacts, aL cApiCoil b0.Coils, .str b0.Jump]] (aL cS r) [.var [.str b0.Label, aL cApiContact b0.Contacts, aL cApiCoil b0.Coils, .str b0.Jump]] := by
  refine conH_of (T := TT0) tt_ok Tryz.func135 (c := _) (by unfold Tryz.f135; rfl) Tryz.ntmps135 (rs := [.tmp 6]) (by rw [Tryz.results135]) (by unfold Tryz.f135; rfl) (by simp) (k := 1) rfl rfl ?_
  try simp only [argsCh]
  have F := True.intro
  dsimp only [graph_gather_c138] at h
  refine rs0 ?_
  iterate 3 refine vp ?_
  refine vn ?_
  refine rs (fun d => Nat.beq d 11) ?_
  refine vp ?_
  obtain ⟨r3833, hr3832, h⟩ := obind h
  refine vc (con_graph_Nodes_o0 hr3832) ?_
  refine vp ?_
  refine vn ?_
  refine Wp.seq ?_
  refine rs0 ?_
  iterate 2 refine vp ?_
  obtain ⟨r3837, hr3836, h⟩ := obind h
  refine vc (con_slices_Contains_string hr3836) ?_
  refine vp ?_
  refine vn ?_
  refine sB h F (fun F h => ?_) fun F h => ?_
  refine cF ?_
  refine Wp.skip ?_
  refine sh ?_
  refine rs0 ?_
  iterate 3 refine vp ?_
  refine vn ?_
  refine rs0 ?_
  refine vp ?_
  refine vn ?_
  refine rs0 ?_
  iterate 2 refine vp ?_
  refine vn ?_
  refine rs0 ?_
  iterate 2 refine vp ?_
  obtain ⟨q3839, hr3838, h⟩ := obind h
  refine vh [5, 4, 2, 0, 6] (con_graph_gather_1_c138_166 _ hr3838) ?_
  refine vn ?_
  refine rs0 ?_
  iterate 2 refine vp ?_
  obtain ⟨q3841, hr3840, h⟩ := obind h
  refine vh [3, 5, 4] (con_slices_DeleteFunc_string_c167_v1 hr3840) ?_
  refine vp ?_
  refine vn ?_
  cases h
  exact Wp.ret (enH [some 0])
  refine cT ?_
  refine rs0 ?_
  refine vp ?_
  refine vn ?_
  cases h
  exact Wp.ret (enH [some 0])

theorem con_reduce_Expand {n : Nat} {t0 : TreeTree} {l1 : List ApiContact} {r : ApiRung × Int} (h : reduce_Expand n t0 l1 = some r) : Con Tryz.prog G0 29 [.agg [.int .i64 t0.Kind, .int .i64 t0.N, aL cTreeTree t0.Kids], aL cApiContact l1] (.tup [.agg (cApiRung r.1), .int .i64 r.2]) [] := by
  refine con_of (T := TT0) tt_ok Tryz.func29 (c := _) (by unfold Tryz.f29; rfl) Tryz.ntmps29 (rs := [.cell 4 25, .tmp 5]) (by rw [Tryz.results29]) (by unfold Tryz.f29; rfl) (by simp) ?_
  simp only [argsCh]
  have F := True.intro
  dsimp only [reduce_Expand] at h
  refine rs0 ?_
  iterate 3 refine vp ?_
  refine vn ?_
  refine Wp.seq ?_
  refine rs0 ?_
  iterate 3 refine vp ?_
  obtain ⟨r4800, hr4799, h⟩ := obind h
  refine vc (con_tree_Check hr4799) ?_
  refine vp ?_
  refine vn ?_
  refine rs0 ?_
  iterate 2 refine vp ?_
  refine vn ?_
  refine sB h F (fun F h => ?_) fun F h => ?_
  refine cF ?_
  refine Wp.skip ?_
  refine sh ?_
  refine rs (fun d => Nat.beq d 19) ?_
  refine vp ?_
  obtain ⟨r4806, hr4805, h⟩ := obind h
  refine vc (con_slices_Clone_api_Contact_o0 hr4805) ?_
  iterate 2 refine vp ?_
  refine vn ?_
  refine rs0 ?_
  iterate 2 refine vp ?_
  refine vn ?_
  refine rs0 ?_
  refine vp ?_
  refine vn ?_
  refine rs0 ?_
  iterate 2 refine vp ?_
  refine vn ?_
  refine rs0 ?_
  iterate 3 refine vp ?_
  obtain ⟨⟨q5102, q5103⟩, hr5101, h⟩ := obind h
  dsimp only at h
  refine vh [3, 2, 5, 4] (con_reduce_Expand_1_c56_v1 _ hr5101) ?_
  refine vn ?_
  refine rs0 ?_
  iterate 4 refine vp ?_
  refine vn ?_
  cases h
  exact Wp.ret en0
  refine cT ?_
  refine rs0 ?_
  iterate 4 refine vp ?_
  refine vn ?_
  cases h
  exact Wp.ret en0

end Go.Proofs.YtaebdeidbibfkaaGreatDoor

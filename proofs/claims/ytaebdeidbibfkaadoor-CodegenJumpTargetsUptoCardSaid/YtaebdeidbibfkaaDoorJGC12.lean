/- Contracts: models of functions are right. No law is proved here. -/
import Derived.Test.YtaebdeidbibfkaaDoorJGMod
import Derived.Test.YtaebdeidbibfkaaDoorJTaj
import Derived.Test.YtaebdeidbibfkaaDoorJSo
import Derived.Test.YtaebdeidbibfkaaDoorJGC0
import Derived.Test.YtaebdeidbibfkaaDoorJGC1
import Derived.Test.YtaebdeidbibfkaaDoorJGC2
import Derived.Test.YtaebdeidbibfkaaDoorJGC3
import Derived.Test.YtaebdeidbibfkaaDoorJGC4
import Derived.Test.YtaebdeidbibfkaaDoorJGC7
import Derived.Test.YtaebdeidbibfkaaDoorJGC9
import Derived.Test.YtaebdeidbibfkaaDoorJGC11
namespace Go.Proofs.YtaebdeidbibfkaaDoor
open Go.Av Go.G
attribute [-simp] Int.natCast_tdiv_eq_ediv
attribute [local simp] runf guardA opf St.ev Go.Av.look St.setd constAV constAV0 opBin opLen intBin St.need lookT TT0 tab resA resOne resAll blt_dec ble_dec beq_dec isPure
attribute [local simp] opMakeSlice opCopy opIndexAddr opLoad opStore St.mem St.rows opUn calleeA toArgs toArg toArg0 toArgs0 shift shift0 shift1 splice cellsOf isFree ofCells TS.isAgg isCell strBin opConvert
attribute [local simp] opSlice3 opClear fz_clear opBuildSlice fillA opAppend eqC eqA cksB ckB St.newBox runI valKind withinB readsHp refsD refs noSl opFieldAddr opBuild opMax opMin placeOf Op.operands Call.operands opIndex opExtract opSlice opField partA
attribute [local simp] loA hiA lenA opMakeMap opLookup opMapUpdate keyOk findA_int findA_str findA_bool putA_strB putA_strI putA_strS putA_intB putA_intI putA_intS putA_boolI putA_boolB byteRow_rwN bytesOf_rwN opBytesStr mAV_length mAV_nil cA1 cA2 cA3 cA4 opNilCheck opMakeFunc opRange
attribute [local simp] aL cI cB cS cL rw_map fz_rw fz_const dropRow_rw fz_append fz_set fz_copy fz_rows rowLen_rw rowsLen_nil rowsLen_cons rowsLen_append rowsLen_map rowsLen_dm rowsLen_tm rowsLen_take rowsLen_drop rowsLen_replicate take_map_len take_map_le drop_map_len take_drop_len chunks isScalar isScalar0
attribute [local simp] putBack putAt objMap mapC mapA mapT map0 bid rid memB passed closedB argsH argH argH0 argsH0 objIds ids0 idsC isLocT isLocA isLocC isLoc0 LocObj
attribute [local congr] bind_congr1 map_congr1 cond_congr1
attribute [local simp] cApiAddr cApiContact cApiCoil cApiRung cApiIns cApiLadder cApiSize cApiProgram cReducePair cReduceEdge cTreeTree_eq TreeTree_Kind_mk TreeTree_N_mk TreeTree_Kids_mk eta_TreeTree
variable [Drawn]
set_option maxHeartbeats 4000000
set_option linter.unusedSectionVars false
set_option maxRecDepth 20000
set_option linter.unusedSimpArgs false
set_option linter.unusedVariables false
theorem con_codegen_Tree {n : Nat} {r_0 : ApiRung} {t1 : TreeTree} {slot2 : Int} {r : (List ApiIns) × Int} (h : codegen_Tree n r_0 t1 slot2 = some r) : Con Tryd.prog G0 20 [.agg (cApiRung r_0), .agg [.int .i64 t1.Kind, .int .i64 t1.N, aL cTreeTree t1.Kids], .int .i64 slot2] (.tup [aL cApiIns r.1, .int .i64 r.2]) [] := by
  refine con_of (T := TT0) tt_ok Tryd.func20 (c := _) (by unfold Tryd.f20; rfl) Tryd.ntmps20 (rs := [.tmp 6, .tmp 7]) (by rw [Tryd.results20]) (by unfold Tryd.f20; rfl) (by simp) ?_
  simp only [argsCh]
  have F := True.intro
  dsimp only [codegen_Tree] at h
  refine rs0 ?_
  iterate 4 refine vp ?_
  refine vn ?_
  refine Wp.seq ?_
  refine rs0 ?_
  iterate 4 refine vp ?_
  obtain ⟨r15347, hr15346, h⟩ := obind h
  refine vc (con_tree_Check hr15346) ?_
  refine vp ?_
  refine vn ?_
  refine rs0 ?_
  iterate 2 refine vp ?_
  refine vn ?_
  refine sB h F (fun F h => ?_) fun F h => ?_
  refine cF ?_
  refine Wp.skip ?_
  refine sh ?_
  refine Wp.seq ?_
  refine rs0 ?_
  iterate 2 refine vp ?_
  obtain ⟨r15363, hr15362, h⟩ := obind h
  refine vc (con_slices_ContainsFunc_api_Contact_c36 hr15362) ?_
  refine vn ?_
  refine sB h F (fun F h => ?_) fun F h => ?_
  refine cF ?_
  refine Wp.skip ?_
  refine sh ?_
  refine Wp.seq ?_
  refine rs0 ?_
  iterate 3 refine vp ?_
  refine sD h F (fun F h => ?_) fun F h => ?_
  refine vg ?_
  refine vg ?_
  refine vp ?_
  refine vn ?_
  refine sD h F (fun F h => ?_) fun F h => ?_
  refine cF ?_
  refine Wp.skip ?_
  refine sh ?_
  refine dw (fun _ => false) [0] ?_
  refine du 4 ?_
  refine gd h F fun F h => ?_
  refine de ?_
  refine nm (cI .i64) h F fun l15364 F h => ?_
  refine du 1 ?_
  refine de ?_
  refine du 1 ?_
  refine dn ?_
  refine jn (fun l15383 : List Int => { ch := [(4, .hptr 0 0 0), (9, .hptr 1 0 0)], hp := [.var [.int .i64 t1.Kind, .int .i64 t1.N, aL cTreeTree t1.Kids], .var [.str r_0.Label, aL cApiContact r_0.Contacts, aL cApiCoil r_0.Coils, .str r_0.Jump, .sl 2 0 l15383.length, .nilsl], .arr 1 l15383.length (rw (l15383.map (cI .i64)))], base := 0, n := 63, cond := True, gl := G0 }) (fun x => codegen_Tree_J1 n r_0 t1 x = some r) ?_ ?_
  clear h
  rintro l15383 h
  dsimp only [codegen_Tree_J1] at h
  try dsimp only
  refine rs0 ?_
  iterate 2 refine vp ?_
  refine vl [some 0, some 1, some 2, none] { ch := [(4, .hptr 0 0 0), (9, .hptr 1 0 0), (56, .hptr 1 0 0), (57, .agg [.int .i64 t1.Kind, .int .i64 t1.N, aL cTreeTree t1.Kids])], hp := [.var [.int .i64 t1.Kind, .int .i64 t1.N, aL cTreeTree t1.Kids], .var [.str r_0.Label, aL cApiContact r_0.Contacts, aL cApiCoil r_0.Coils, .str r_0.Jump, .sl 2 0 l15383.length, .sl 3 0 0], .arr 1 l15383.length (rw (l15383.map (cI .i64))), .arr 4 ([] : List ApiIns).length (rw (([] : List ApiIns).map cApiIns))], base := 0, n := 63, cond := True, gl := G0 } ?_
  obtain ⟨q15873, hr15872, h⟩ := obind h
  refine vh [1, 2, 3] (con_codegen_maker_lay_v1 _ hr15872) ?_
  refine vn ?_
  refine rs0 ?_
  iterate 6 refine vp ?_
  refine vn ?_
  cases h
  exact Wp.ret en0
  refine rs0 ?_
  iterate 4 refine vp ?_
  refine vn ?_
  refine Wp.block ?_
  refine lp [some 1, some 3, some 2] (fun x : Int × Int × (List Int) => { ch := [(2, .int .i64 x.1), (4, .hptr 0 0 0), (9, .hptr 1 0 0), (37, aL cApiContact r_0.Contacts), (38, .int .i64 (r_0.Contacts.length : Int)), (39, .int .i64 x.2.1)], hp := [.var [.int .i64 t1.Kind, .int .i64 t1.N, aL cTreeTree t1.Kids], .var [.str r_0.Label, aL cApiContact r_0.Contacts, aL cApiCoil r_0.Coils, .str r_0.Jump, .sl 2 0 x.2.2.length, .nilsl], .arr 1 x.2.2.length (rw (x.2.2.map (cI .i64)))], base := 0, n := 63, cond := True, gl := G0 }) (fun m x => codegen_Tree_L2 n r_0 t1 m x.1 x.2.1 x.2.2 = some r) n (slot2, 0, l15364) h ?_
  rintro rec_n2 ⟨slot15879, p15880, l15881⟩ h
  dsimp only [codegen_Tree_L2] at h
  try dsimp only
  refine rs0 ?_
  refine vp ?_
  refine vn ?_
  refine Wp.seq ?_
  refine sD h F (fun F h => ?_) fun F h => ?_
  refine cF ?_
  refine Wp.exit ?_
  exact nx [some 0, some 1, some 2] l15881 h
  refine cT ?_
  refine Wp.skip ?_
  refine sh ?_
  refine Wp.seq ?_
  refine Wp.block ?_
  refine rs0 ?_
  refine vp ?_
  refine eI h F fun x15887 F h => ?_
  iterate 5 refine vp ?_
  refine vn ?_
  refine rs0 ?_
  refine vp ?_
  obtain ⟨r15889, hr15888, h⟩ := obind h
  refine vc (con_codegen_sees hr15888) ?_
  refine vn ?_
  refine sB h F (fun F h => ?_) fun F h => ?_
  refine cF ?_
  refine Wp.skip ?_
  refine sh ?_
  refine rg0 ?_
  iterate 2 refine vp ?_
  refine vn ?_
  exact nx [some 0, some 1, some 2] (slot15879, (IntKind.i64.wrap (p15880 + 1)), l15881) h
  refine cT ?_
  refine rs0 ?_
  iterate 6 refine vp ?_
  refine eI h F fun x15890 F h => ?_
  iterate 2 refine vp ?_
  refine nm (cI .i64) h F fun l15891 F h => ?_
  refine vn ?_
  refine rg0 ?_
  iterate 3 refine vp ?_
  refine vn ?_
  refine sh ?_
  refine rg0 ?_
  iterate 2 refine vp ?_
  refine vn ?_
  exact nx [some 0, some 1, some 2] ((IntKind.i64.wrap (slot15879 + 1)), (IntKind.i64.wrap (p15880 + 1)), l15891) h
  refine cT ?_
  refine rs0 ?_
  iterate 2 refine vp ?_
  refine vn ?_
  cases h
  exact Wp.ret en0
  refine vs ?_
  refine vs ?_
  refine vp ?_
  refine vn ?_
  refine cT ?_
  refine rs0 ?_
  iterate 2 refine vp ?_
  refine vn ?_
  cases h
  exact Wp.ret en0
  refine cT ?_
  refine rs0 ?_
  iterate 2 refine vp ?_
  refine vn ?_
  cases h
  exact Wp.ret en0
  refine cT ?_
  refine rs0 ?_
  iterate 3 refine vp ?_
  refine vn ?_
  cases h
  exact Wp.ret en0
theorem con_graph_TopoSort {n : Nat} {r_0 : ApiRung} {r : (List Str) × Int} (h : graph_TopoSort n r_0 = some r) : Con Tryd.prog G0 47 [.agg (cApiRung r_0)] (.tup [aL cS r.1, .int .i64 r.2]) [] := by
  refine con_of (T := TT0) tt_ok Tryd.func47 (c := _) (by unfold Tryd.f47; rfl) Tryd.ntmps47 (rs := [.tmp 2, .tmp 3]) (by rw [Tryd.results47]) (by unfold Tryd.f47; rfl) (by simp) ?_
  simp only [argsCh]
  have F := True.intro
  dsimp only [graph_TopoSort] at h
  refine rs0 ?_
  iterate 3 refine vp ?_
  refine vn ?_
  refine rs (fun d => Nat.beq d 9) ?_
  refine vp ?_
  obtain ⟨r13169, hr13168, h⟩ := obind h
  refine vc (con_graph_Nodes_o0 hr13168) ?_
  refine vp ?_
  refine vn ?_
  refine rs0 ?_
  iterate 3 refine vp ?_
  refine vn ?_
  refine rs0 ?_
  refine vp ?_
  refine vn ?_
  refine Wp.seq ?_
  refine Wp.block ?_
  refine lp [some 0, some 1, some 3, some 2, none] (fun x : (List Str) × (List (Str × Bool)) × (List Str) => { ch := [(1, .hptr 0 0 0), (4, .sl 1 0 x.1.length), (5, .hptr 2 0 0), (6, .sl 4 0 x.2.2.length)], hp := [.var [.str r_0.Label, aL cApiContact r_0.Contacts, aL cApiCoil r_0.Coils, .str r_0.Jump], .arr 1 x.1.length (rw (x.1.map cS)), .var [.mp 3], .map (mAV AV.str cB x.2.1), .arr 1 x.2.2.length (rw (x.2.2.map cS))], base := 0, n := 37, cond := True, gl := G0 }) (fun m x => graph_TopoSort_L1 n r_0 m x.1 x.2.1 x.2.2 = some r) n (r13169, [], []) h ?_
  rintro rec_n1 ⟨r13271, p13272, p13273⟩ h
  dsimp only [graph_TopoSort_L1] at h
  try dsimp only
  refine Wp.seq ?_
  refine rs0 ?_
  iterate 3 refine vp ?_
  refine vn ?_
  refine sD h F (fun F h => ?_) fun F h => ?_
  refine cF ?_
  refine Wp.exit ?_
  refine sh ?_
  refine rs0 ?_
  iterate 3 refine vp ?_
  refine vn ?_
  cases h
  exact Wp.ret en0
  refine cT ?_
  refine Wp.skip ?_
  refine sh ?_
  refine Wp.block ?_
  refine rs0 ?_
  iterate 2 refine vp ?_
  obtain ⟨r13281, hr13280, h⟩ := obind h
  refine vh [1, 0, 2, 3] (con_slices_IndexFunc_string_c72_v1 hr13280) ?_
  refine vp ?_
  refine vn ?_
  refine Wp.seq ?_
  refine rs0 ?_
  iterate 2 refine vp ?_
  refine vn ?_
  refine sD h F (fun F h => ?_) fun F h => ?_
  refine cF ?_
  refine Wp.skip ?_
  refine sh ?_
  refine dw (fun _ => false) [1, 2, 3] ?_
  refine du 3 ?_
  refine eI h F fun x13282 F h => ?_
  refine du 2 ?_
  refine db ?_
  refine dn ?_
  refine rs (fun d => Nat.beq d 30) ?_
  iterate 6 refine vp ?_
  refine gd h F fun F h => ?_
  refine vp ?_
  refine nm cS h F fun l13283 F h => ?_
  refine vp ?_
  refine vn ?_
  refine rg0 ?_
  iterate 4 refine vp ?_
  obtain ⟨q13285, hr13284, h⟩ := obind h
  refine vh [1] (con_slices_Delete_string_v1 hr13284) ?_
  refine vp ?_
  refine vn ?_
  exact nx [some 0, some 1, some 2, some 3, some 5] (q13285, (mPut p13272 x13282 true), l13283) h
  refine cT ?_
  refine rs0 ?_
  iterate 2 refine vp ?_
  refine vn ?_
  cases h
  exact Wp.ret en0
theorem con_graph_gather_c101 {n : Nat} {r_0 : ApiRung} {node1 : Str} {b0 : ApiRung} {r : (List Str)} (h : graph_gather_c101 n r_0 node1 b0 = some r) : ConH Tryd.prog G0 100 [.agg (cApiRung r_0), .str node1, .clos 101 [] [.hptr 0 0 0]] [.var [.str b0.Label, aL cApiContact b0.Contacts, aL cApiCoil b0.Coils, .str b0.Jump]] (aL cS r) [.var [.str b0.Label, aL cApiContact b0.Contacts, aL cApiCoil b0.Coils, .str b0.Jump]] := by
  refine conH_of (T := TT0) tt_ok Tryd.func100 (c := _) (by unfold Tryd.f100; rfl) Tryd.ntmps100 (rs := [.tmp 6]) (by rw [Tryd.results100]) (by unfold Tryd.f100; rfl) (by simp) (k := 1) rfl rfl ?_
  try simp only [argsCh]
  have F := True.intro
  dsimp only [graph_gather_c101] at h
  refine rs0 ?_
  iterate 3 refine vp ?_
  refine vn ?_
  refine rs (fun d => Nat.beq d 11) ?_
  refine vp ?_
  obtain ⟨r14431, hr14430, h⟩ := obind h
  refine vc (con_graph_Nodes_o0 hr14430) ?_
  refine vp ?_
  refine vn ?_
  refine Wp.seq ?_
  refine rs0 ?_
  iterate 2 refine vp ?_
  obtain ⟨r14435, hr14434, h⟩ := obind h
  refine vc (con_slices_Contains_string hr14434) ?_
  refine vp ?_
  refine vn ?_
  refine sB h F (fun F h => ?_) fun F h => ?_
  refine cF ?_
  refine Wp.skip ?_
  refine sh ?_
  refine rs0 ?_
  iterate 3 refine vp ?_
  refine vn ?_
  refine rs0 ?_
  refine vp ?_
  refine vn ?_
  refine rs0 ?_
  iterate 2 refine vp ?_
  refine vn ?_
  refine rs0 ?_
  iterate 2 refine vp ?_
  obtain ⟨q14437, hr14436, h⟩ := obind h
  refine vh [5, 4, 2, 0, 6] (con_graph_gather_1_c101_127 _ hr14436) ?_
  refine vn ?_
  refine rs0 ?_
  iterate 2 refine vp ?_
  obtain ⟨q14439, hr14438, h⟩ := obind h
  refine vh [3, 5, 4] (con_slices_DeleteFunc_string_c128_v1 hr14438) ?_
  refine vp ?_
  refine vn ?_
  cases h
  exact Wp.ret (enH [some 0])
  refine cT ?_
  refine rs0 ?_
  refine vp ?_
  refine vn ?_
  cases h
  exact Wp.ret (enH [some 0])
theorem con_graph_gather_c103 {n : Nat} {r_0 : ApiRung} {node1 : Str} {b0 : ApiRung} {r : (List Str)} (h : graph_gather_c103 n r_0 node1 b0 = some r) : ConH Tryd.prog G0 100 [.agg (cApiRung r_0), .str node1, .clos 103 [] [.hptr 0 0 0]] [.var [.str b0.Label, aL cApiContact b0.Contacts, aL cApiCoil b0.Coils, .str b0.Jump]] (aL cS r) [.var [.str b0.Label, aL cApiContact b0.Contacts, aL cApiCoil b0.Coils, .str b0.Jump]] := by
  refine conH_of (T := TT0) tt_ok Tryd.func100 (c := _) (by unfold Tryd.f100; rfl) Tryd.ntmps100 (rs := [.tmp 6]) (by rw [Tryd.results100]) (by unfold Tryd.f100; rfl) (by simp) (k := 1) rfl rfl ?_
  try simp only [argsCh]
  have F := True.intro
  dsimp only [graph_gather_c103] at h
  refine rs0 ?_
  iterate 3 refine vp ?_
  refine vn ?_
  refine rs (fun d => Nat.beq d 11) ?_
  refine vp ?_
  obtain ⟨r14636, hr14635, h⟩ := obind h
  refine vc (con_graph_Nodes_o0 hr14635) ?_
  refine vp ?_
  refine vn ?_
  refine Wp.seq ?_
  refine rs0 ?_
  iterate 2 refine vp ?_
  obtain ⟨r14640, hr14639, h⟩ := obind h
  refine vc (con_slices_Contains_string hr14639) ?_
  refine vp ?_
  refine vn ?_
  refine sB h F (fun F h => ?_) fun F h => ?_
  refine cF ?_
  refine Wp.skip ?_
  refine sh ?_
  refine rs0 ?_
  iterate 3 refine vp ?_
  refine vn ?_
  refine rs0 ?_
  refine vp ?_
  refine vn ?_
  refine rs0 ?_
  iterate 2 refine vp ?_
  refine vn ?_
  refine rs0 ?_
  iterate 2 refine vp ?_
  obtain ⟨q14642, hr14641, h⟩ := obind h
  refine vh [5, 4, 2, 0, 6] (con_graph_gather_1_c103_127 _ hr14641) ?_
  refine vn ?_
  refine rs0 ?_
  iterate 2 refine vp ?_
  obtain ⟨q14644, hr14643, h⟩ := obind h
  refine vh [3, 5, 4] (con_slices_DeleteFunc_string_c128_v1 hr14643) ?_
  refine vp ?_
  refine vn ?_
  cases h
  exact Wp.ret (enH [some 0])
  refine cT ?_
  refine rs0 ?_
  refine vp ?_
  refine vn ?_
  cases h
  exact Wp.ret (enH [some 0])
theorem con_tree_StackDepth {n : Nat} {t0 : TreeTree} {edge1 : List Bool} {r : Int × Int} (h : tree_StackDepth n t0 edge1 = some r) : Con Tryd.prog G0 91 [.agg [.int .i64 t0.Kind, .int .i64 t0.N, aL cTreeTree t0.Kids], aL cB edge1] (.tup [.int .i64 r.1, .int .i64 r.2]) [] := by
  refine con_of (T := TT0) tt_ok Tryd.func91 (c := _) (by unfold Tryd.f91; rfl) Tryd.ntmps91 (rs := [.tmp 4, .tmp 5]) (by rw [Tryd.results91]) (by unfold Tryd.f91; rfl) (by simp) ?_
  simp only [argsCh]
  have F := True.intro
  dsimp only [tree_StackDepth] at h
  refine rs0 ?_
  iterate 3 refine vp ?_
  refine vn ?_
  refine Wp.seq ?_
  refine rs0 ?_
  iterate 3 refine vp ?_
  obtain ⟨r15312, hr15311, h⟩ := obind h
  refine vc (con_tree_Check hr15311) ?_
  refine vp ?_
  refine vn ?_
  refine rs0 ?_
  iterate 2 refine vp ?_
  refine vn ?_
  refine sB h F (fun F h => ?_) fun F h => ?_
  refine cF ?_
  refine Wp.skip ?_
  refine sh ?_
  refine rs0 ?_
  iterate 2 refine vp ?_
  obtain ⟨r15340, hr15339, h⟩ := obind h
  refine vc (con_tree_Tree_depth _ hr15339) ?_
  iterate 2 refine vp ?_
  refine vn ?_
  cases h
  exact Wp.ret en0
  refine cT ?_
  refine rs0 ?_
  iterate 3 refine vp ?_
  refine vn ?_
  cases h
  exact Wp.ret en0
end Go.Proofs.YtaebdeidbibfkaaDoor

/- Contracts: models of functions are right. No law is proved here. -/
import Derived.Test.YtcpbhkplgnhmkaaGMod
import Derived.Test.YtcpbhkplgnhmkaaTak
import Derived.Test.YtcpbhkplgnhmkaaLawM11
import Derived.Test.YtcpbhkplgnhmkaaGC0
import Derived.Test.YtcpbhkplgnhmkaaGC2
import Derived.Test.YtcpbhkplgnhmkaaGC4
import Derived.Test.YtcpbhkplgnhmkaaGC8
import Derived.Test.YtcpbhkplgnhmkaaGC12
import Derived.Test.YtcpbhkplgnhmkaaGC13
namespace Go.Proofs.Ytcpbhkplgnhmkaa
open Go.Av Go.G
attribute [-simp] Int.natCast_tdiv_eq_ediv
attribute [local simp] runf guardA opf St.ev Go.Av.look St.setd constAV constAV0 opBin opLen intBin St.need lookT TT0 tab resA resOne resAll blt_dec ble_dec beq_dec isPure
attribute [local simp] opMakeSlice opCopy opIndexAddr opLoad opStore St.mem St.rows opUn calleeA toArgs toArg toArg0 toArgs0 shift shift0 shift1 splice cellsOf isFree ofCells TS.isAgg isCell strBin opConvert
attribute [local simp] opSlice3 opClear fz_clear opBuildSlice fillA opAppend eqC eqA cksB ckB St.newBox runI valKind withinB readsHp refsD refs noSl opFieldAddr opBuild opMax opMin placeOf Op.operands Call.operands opIndex opExtract opSlice opField partA
attribute [local simp] loA hiA lenA opMakeMap opLookup opMapUpdate keyOk findA_int findA_str findA_bool putA_strB putA_strI putA_strS putA_intB putA_intI putA_intS putA_boolI putA_boolB byteRow_rw bytesOf_rw opBytesStr mAV_length mAV_nil cA1 cA2 cA3 cA4 opNilCheck opMakeFunc opRange
attribute [local simp] aL cI cB cS cL rw_map fz_rw fz_const dropRow_rw fz_append fz_set fz_copy fz_rows rowLen_rw rowsLen_nil rowsLen_cons rowsLen_append rowsLen_map rowsLen_dm rowsLen_tm rowsLen_take rowsLen_drop rowsLen_replicate take_map_len take_map_le drop_map_len take_drop_len chunks isScalar isScalar0
attribute [local simp] putBack putAt objMap mapC mapA mapT map0 bid rid memB passed closedB argsH argH argH0 argsH0 objIds ids0 idsC isLocT isLocA isLocC isLoc0 LocObj
attribute [local congr] bind_congr1 map_congr1 cond_congr1
attribute [local simp] cApiAddr cApiContact cApiCoil cApiRung cApiState cReducePair cReduceEdge cTreeTree_eq TreeTree_Kind_mk TreeTree_N_mk TreeTree_Kids_mk eta_TreeTree
variable [Drawn]
set_option maxHeartbeats 4000000
set_option linter.unusedSectionVars false
set_option maxRecDepth 20000
set_option linter.unusedSimpArgs false
set_option linter.unusedVariables false

theorem con_law16_alive {n : Nat} {r : Bool} (h : law16_alive n  = some r) : Con Try.prog G0 5 [] (.bool r) [] := by
  refine con_of (T := TT0) tt_ok Try.func5 (c := _) (by unfold Try.f5; rfl) Try.ntmps5 (rs := [.tmp 0]) (by rw [Try.results5]) (by unfold Try.f5; rfl) (by simp) ?_
  simp only [argsCh]
  have F := True.intro
  dsimp only [law16_alive] at h
  refine rs0 ?_
  refine vp ?_
  refine vn ?_
  refine rs0 ?_
  iterate 2 refine vp ?_
  refine nl cApiContact h F fun l307 m F h => ?_
  try simp only [m]
  clear m
  iterate 3 refine vp ?_
  refine nl cApiCoil h F fun l308 m F h => ?_
  try simp only [m]
  clear m
  iterate 3 refine vp ?_
  refine vn ?_
  refine rs0 ?_
  iterate 2 refine vp ?_
  refine nl cB h F fun l309 m F h => ?_
  try simp only [m]
  clear m
  refine vp ?_
  refine nl cB h F fun l310 m F h => ?_
  try simp only [m]
  clear m
  refine vp ?_
  refine nl cB h F fun l311 m F h => ?_
  try simp only [m]
  clear m
  refine vp ?_
  obtain ⟨⟨r558, r559, r560⟩, hr557, h⟩ := obind h
  dsimp only at h
  refine vc (con_rungeval_Scan hr557) ?_
  iterate 8 refine vp ?_
  refine vn ?_
  refine rs0 ?_
  iterate 2 refine vp ?_
  refine nl cB h F fun l561 m F h => ?_
  try simp only [m]
  clear m
  refine vp ?_
  obtain ⟨⟨r563, r564, r565⟩, hr562, h⟩ := obind h
  dsimp only at h
  refine vc (con_rungeval_Scan hr562) ?_
  iterate 8 refine vp ?_
  refine vn ?_
  refine rs0 ?_
  iterate 3 refine vp ?_
  refine sB h F (fun F h => ?_) fun F h => ?_
  refine vs ?_
  iterate 2 refine vp ?_
  refine vs ?_
  refine vs ?_
  refine vs ?_
  refine vs ?_
  iterate 2 refine vp ?_
  refine vs ?_
  refine vs ?_
  refine vs ?_
  refine vs ?_
  iterate 2 refine vp ?_
  refine vs ?_
  refine vs ?_
  refine vs ?_
  refine vs ?_
  iterate 2 refine vp ?_
  refine vs ?_
  refine vs ?_
  refine vs ?_
  refine vs ?_
  iterate 2 refine vp ?_
  refine vs ?_
  refine vs ?_
  iterate 2 refine vp ?_
  refine vs ?_
  refine vs ?_
  iterate 2 refine vp ?_
  refine vs ?_
  refine vs ?_
  refine vs ?_
  refine vs ?_
  iterate 2 refine vp ?_
  refine vs ?_
  refine vs ?_
  refine vs ?_
  refine vs ?_
  refine vs ?_
  iterate 2 refine vp ?_
  refine vn ?_
  cases h
  exact Wp.ret en0
  refine vg ?_
  iterate 2 refine vp ?_
  refine sB h F (fun F h => ?_) fun F h => ?_
  refine vs ?_
  refine vs ?_
  refine vs ?_
  refine vs ?_
  iterate 2 refine vp ?_
  refine vs ?_
  refine vs ?_
  refine vs ?_
  refine vs ?_
  iterate 2 refine vp ?_
  refine vs ?_
  refine vs ?_
  refine vs ?_
  refine vs ?_
  iterate 2 refine vp ?_
  refine vs ?_
  refine vs ?_
  refine vs ?_
  refine vs ?_
  iterate 2 refine vp ?_
  refine vs ?_
  refine vs ?_
  iterate 2 refine vp ?_
  refine vs ?_
  refine vs ?_
  iterate 2 refine vp ?_
  refine vs ?_
  refine vs ?_
  refine vs ?_
  refine vs ?_
  iterate 2 refine vp ?_
  refine vs ?_
  refine vs ?_
  refine vs ?_
  refine vs ?_
  refine vs ?_
  iterate 2 refine vp ?_
  refine vn ?_
  cases h
  exact Wp.ret en0
  refine vg ?_
  refine vg ?_
  refine vg ?_
  refine vg ?_
  iterate 2 refine vp ?_
  refine sB h F (fun F h => ?_) fun F h => ?_
  refine vs ?_
  refine vs ?_
  refine vs ?_
  refine vs ?_
  iterate 2 refine vp ?_
  refine vs ?_
  refine vs ?_
  refine vs ?_
  refine vs ?_
  iterate 2 refine vp ?_
  refine vs ?_
  refine vs ?_
  refine vs ?_
  refine vs ?_
  iterate 2 refine vp ?_
  refine vs ?_
  refine vs ?_
  iterate 2 refine vp ?_
  refine vs ?_
  refine vs ?_
  iterate 2 refine vp ?_
  refine vs ?_
  refine vs ?_
  refine vs ?_
  refine vs ?_
  iterate 2 refine vp ?_
  refine vs ?_
  refine vs ?_
  refine vs ?_
  refine vs ?_
  refine vs ?_
  iterate 2 refine vp ?_
  refine vn ?_
  cases h
  exact Wp.ret en0
  refine vg ?_
  refine vg ?_
  refine eN (m := 0) h F fun x566 F h => ?_
  refine vg ?_
  refine vg ?_
  iterate 2 refine vp ?_
  refine sB h F (fun F h => ?_) fun F h => ?_
  refine vs ?_
  refine vs ?_
  refine vs ?_
  refine vs ?_
  iterate 2 refine vp ?_
  refine vs ?_
  refine vs ?_
  refine vs ?_
  refine vs ?_
  iterate 2 refine vp ?_
  refine vs ?_
  refine vs ?_
  iterate 2 refine vp ?_
  refine vs ?_
  refine vs ?_
  iterate 2 refine vp ?_
  refine vs ?_
  refine vs ?_
  refine vs ?_
  refine vs ?_
  iterate 2 refine vp ?_
  refine vs ?_
  refine vs ?_
  refine vs ?_
  refine vs ?_
  refine vs ?_
  iterate 2 refine vp ?_
  refine vn ?_
  cases h
  exact Wp.ret en0
  refine vg ?_
  refine vg ?_
  refine vg ?_
  refine vg ?_
  iterate 2 refine vp ?_
  refine sB h F (fun F h => ?_) fun F h => ?_
  refine vs ?_
  refine vs ?_
  refine vs ?_
  refine vs ?_
  iterate 2 refine vp ?_
  refine vs ?_
  refine vs ?_
  iterate 2 refine vp ?_
  refine vs ?_
  refine vs ?_
  iterate 2 refine vp ?_
  refine vs ?_
  refine vs ?_
  refine vs ?_
  refine vs ?_
  iterate 2 refine vp ?_
  refine vs ?_
  refine vs ?_
  refine vs ?_
  refine vs ?_
  refine vs ?_
  iterate 2 refine vp ?_
  refine vn ?_
  cases h
  exact Wp.ret en0
  refine vg ?_
  refine vg ?_
  refine eN (m := 0) h F fun x567 F h => ?_
  refine vg ?_
  refine vg ?_
  iterate 2 refine vp ?_
  refine sB h F (fun F h => ?_) fun F h => ?_
  refine vs ?_
  refine vs ?_
  iterate 2 refine vp ?_
  refine vs ?_
  refine vs ?_
  iterate 2 refine vp ?_
  refine vs ?_
  refine vs ?_
  refine vs ?_
  refine vs ?_
  iterate 2 refine vp ?_
  refine vs ?_
  refine vs ?_
  refine vs ?_
  refine vs ?_
  refine vs ?_
  iterate 2 refine vp ?_
  refine vn ?_
  cases h
  exact Wp.ret en0
  refine vg ?_
  refine vg ?_
  iterate 2 refine vp ?_
  refine sB h F (fun F h => ?_) fun F h => ?_
  refine vs ?_
  refine vs ?_
  iterate 2 refine vp ?_
  refine vs ?_
  refine vs ?_
  refine vs ?_
  refine vs ?_
  iterate 2 refine vp ?_
  refine vs ?_
  refine vs ?_
  refine vs ?_
  refine vs ?_
  refine vs ?_
  iterate 2 refine vp ?_
  refine vn ?_
  cases h
  exact Wp.ret en0
  refine vg ?_
  refine vg ?_
  iterate 2 refine vp ?_
  refine sB h F (fun F h => ?_) fun F h => ?_
  refine vs ?_
  refine vs ?_
  refine vs ?_
  refine vs ?_
  iterate 2 refine vp ?_
  refine vs ?_
  refine vs ?_
  refine vs ?_
  refine vs ?_
  refine vs ?_
  iterate 2 refine vp ?_
  refine vn ?_
  cases h
  exact Wp.ret en0
  refine vg ?_
  refine vg ?_
  refine vg ?_
  refine vg ?_
  iterate 2 refine vp ?_
  refine sB h F (fun F h => ?_) fun F h => ?_
  refine vs ?_
  refine vs ?_
  refine vs ?_
  refine vs ?_
  refine vs ?_
  iterate 2 refine vp ?_
  refine vn ?_
  cases h
  exact Wp.ret en0
  refine vg ?_
  refine vg ?_
  refine eN (m := 0) h F fun x568 F h => ?_
  refine vg ?_
  refine vg ?_
  refine vg ?_
  iterate 2 refine vp ?_
  refine vn ?_
  cases h
  exact Wp.ret en0

theorem con_graph_TopoSort {n : Nat} {r_0 : ApiRung} {r : (List Str) × Int} (h : graph_TopoSort n r_0 = some r) : Con Try.prog G0 24 [.agg (cApiRung r_0)] (.tup [aL cS r.1, .int .i64 r.2]) [] := by
  refine con_of (T := TT0) tt_ok Try.func24 (c := _) (by unfold Try.f24; rfl) Try.ntmps24 (rs := [.tmp 2, .tmp 3]) (by rw [Try.results24]) (by unfold Try.f24; rfl) (by simp) ?_
  simp only [argsCh]
  have F := True.intro
  dsimp only [graph_TopoSort] at h
  refine rs0 ?_
  iterate 3 refine vp ?_
  refine vn ?_
  refine rs (fun d => Nat.beq d 9) ?_
  refine vp ?_
  obtain ⟨r3375, hr3374, h⟩ := obind h
  refine vc (con_graph_Nodes_o0 hr3374) ?_
  refine vp ?_
  refine vn ?_
  refine rs0 ?_
  iterate 3 refine vp ?_
  refine vn ?_
  refine rs0 ?_
  refine vp ?_
  refine vn ?_
  refine Wp.seq ?_
  refine Wp.block ?_
  refine lp [some 0, some 1, some 3, some 2, none] (fun x : (List Str) × (List (Str × Bool)) × (List Str) => { ch := [(1, .hptr 0 0 0), (4, .sl 1 0 x.1.length), (5, .hptr 2 0 0), (6, .sl 4 0 x.2.2.length)], hp := [.var [.str r_0.Label, aL cApiContact r_0.Contacts, aL cApiCoil r_0.Coils, .str r_0.Jump], .arr 1 x.1.length (rw (x.1.map cS)), .var [.mp 3], .map (mAV AV.str cB x.2.1), .arr 1 x.2.2.length (rw (x.2.2.map cS))], base := 0, n := 37, cond := True, gl := G0 }) (fun m x => graph_TopoSort_L1 n r_0 m x.1 x.2.1 x.2.2 = some r) n (r3375, [], []) h ?_
  rintro rec_n1 ⟨r3477, p3478, p3479⟩ h
  dsimp only [graph_TopoSort_L1] at h
  try dsimp only
  refine Wp.seq ?_
  refine rs0 ?_
  iterate 3 refine vp ?_
  refine vn ?_
  refine sD h F (fun F h => ?_) fun F h => ?_
  refine cF ?_
  refine Wp.exit ?_
  refine sh ?_
  refine rs0 ?_
  iterate 3 refine vp ?_
  refine vn ?_
  cases h
  exact Wp.ret en0
  refine cT ?_
  refine Wp.skip ?_
  refine sh ?_
  refine Wp.block ?_
  refine rs0 ?_
  iterate 2 refine vp ?_
  obtain ⟨r3487, hr3486, h⟩ := obind h
  refine vh [1, 0, 2, 3] (con_slices_IndexFunc_string_c47_v1 hr3486) ?_
  refine vp ?_
  refine vn ?_
  refine Wp.seq ?_
  refine rs0 ?_
  iterate 2 refine vp ?_
  refine vn ?_
  refine sD h F (fun F h => ?_) fun F h => ?_
  refine cF ?_
  refine Wp.skip ?_
  refine sh ?_
  refine dw (fun _ => false) [1, 2, 3] ?_
  refine du 3 ?_
  refine eI h F fun x3488 F h => ?_
  refine du 2 ?_
  refine db ?_
  refine dn ?_
  refine rs (fun d => Nat.beq d 30) ?_
  iterate 6 refine vp ?_
  refine gd h F fun F h => ?_
  refine vp ?_
  refine nm cS h F fun l3489 F h => ?_
  refine vp ?_
  refine vn ?_
  refine rg0 ?_
  iterate 4 refine vp ?_
  obtain ⟨q3491, hr3490, h⟩ := obind h
  refine vh [1] (con_slices_Delete_string_v1 hr3490) ?_
  refine vp ?_
  refine vn ?_
  exact nx [some 0, some 1, some 2, some 3, some 5] (q3491, (mPut p3478 x3488 true), l3489) h
  refine cT ?_
  refine rs0 ?_
  iterate 2 refine vp ?_
  refine vn ?_
  cases h
  exact Wp.ret en0

theorem con_graph_gather_c68 {n : Nat} {r_0 : ApiRung} {node1 : Str} {b0 : ApiRung} {r : (List Str)} (h : graph_gather_c68 n r_0 node1 b0 = some r) : ConH Try.prog G0 67 [.agg (cApiRung r_0), .str node1, .clos 68 [] [.hptr 0 0 0]] [.var [.str b0.Label, aL cApiContact b0.Contacts, aL cApiCoil b0.Coils, .str b0.Jump]] (aL cS r) [.var [.str b0.Label, aL cApiContact b0.Contacts, aL cApiCoil b0.Coils, .str b0.Jump]] := by
  refine conH_of (T := TT0) tt_ok Try.func67 (c := _) (by unfold Try.f67; rfl) Try.ntmps67 (rs := [.tmp 6]) (by rw [Try.results67]) (by unfold Try.f67; rfl) (by simp) (k := 1) rfl rfl ?_
  try simp only [argsCh]
  have F := True.intro
  dsimp only [graph_gather_c68] at h
  refine rs0 ?_
  iterate 3 refine vp ?_
  refine vn ?_
  refine rs (fun d => Nat.beq d 11) ?_
  refine vp ?_
  obtain ⟨r4613, hr4612, h⟩ := obind h
  refine vc (con_graph_Nodes_o0 hr4612) ?_
  refine vp ?_
  refine vn ?_
  refine Wp.seq ?_
  refine rs0 ?_
  iterate 2 refine vp ?_
  obtain ⟨r4617, hr4616, h⟩ := obind h
  refine vc (con_slices_Contains_string hr4616) ?_
  refine vp ?_
  refine vn ?_
  refine sB h F (fun F h => ?_) fun F h => ?_
  refine cF ?_
  refine Wp.skip ?_
  refine sh ?_
  refine rs0 ?_
  iterate 3 refine vp ?_
  refine vn ?_
  refine rs0 ?_
  refine vp ?_
  refine vn ?_
  refine rs0 ?_
  iterate 2 refine vp ?_
  refine vn ?_
  refine rs0 ?_
  iterate 2 refine vp ?_
  obtain ⟨q4619, hr4618, h⟩ := obind h
  refine vh [5, 4, 2, 0, 6] (con_graph_gather_1_c68_82 _ hr4618) ?_
  refine vn ?_
  refine rs0 ?_
  iterate 2 refine vp ?_
  obtain ⟨q4621, hr4620, h⟩ := obind h
  refine vh [3, 5, 4] (con_slices_DeleteFunc_string_c83_v1 hr4620) ?_
  refine vp ?_
  refine vn ?_
  cases h
  exact Wp.ret (enH [some 0])
  refine cT ?_
  refine rs0 ?_
  refine vp ?_
  refine vn ?_
  cases h
  exact Wp.ret (enH [some 0])

theorem con_graph_gather_c70 {n : Nat} {r_0 : ApiRung} {node1 : Str} {b0 : ApiRung} {r : (List Str)} (h : graph_gather_c70 n r_0 node1 b0 = some r) : ConH Try.prog G0 67 [.agg (cApiRung r_0), .str node1, .clos 70 [] [.hptr 0 0 0]] [.var [.str b0.Label, aL cApiContact b0.Contacts, aL cApiCoil b0.Coils, .str b0.Jump]] (aL cS r) [.var [.str b0.Label, aL cApiContact b0.Contacts, aL cApiCoil b0.Coils, .str b0.Jump]] := by
  refine conH_of (T := TT0) tt_ok Try.func67 (c := _) (by unfold Try.f67; rfl) Try.ntmps67 (rs := [.tmp 6]) (by rw [Try.results67]) (by unfold Try.f67; rfl) (by simp) (k := 1) rfl rfl ?_
  try simp only [argsCh]
  have F := True.intro
  dsimp only [graph_gather_c70] at h
  refine rs0 ?_
  iterate 3 refine vp ?_
  refine vn ?_
  refine rs (fun d => Nat.beq d 11) ?_
  refine vp ?_
  obtain ⟨r4818, hr4817, h⟩ := obind h
  refine vc (con_graph_Nodes_o0 hr4817) ?_
  refine vp ?_
  refine vn ?_
  refine Wp.seq ?_
  refine rs0 ?_
  iterate 2 refine vp ?_
  obtain ⟨r4822, hr4821, h⟩ := obind h
  refine vc (con_slices_Contains_string hr4821) ?_
  refine vp ?_
  refine vn ?_
  refine sB h F (fun F h => ?_) fun F h => ?_
  refine cF ?_
  refine Wp.skip ?_
  refine sh ?_
  refine rs0 ?_
  iterate 3 refine vp ?_
  refine vn ?_
  refine rs0 ?_
  refine vp ?_
  refine vn ?_
  refine rs0 ?_
  iterate 2 refine vp ?_
  refine vn ?_
  refine rs0 ?_
  iterate 2 refine vp ?_
  obtain ⟨q4824, hr4823, h⟩ := obind h
  refine vh [5, 4, 2, 0, 6] (con_graph_gather_1_c70_82 _ hr4823) ?_
  refine vn ?_
  refine rs0 ?_
  iterate 2 refine vp ?_
  obtain ⟨q4826, hr4825, h⟩ := obind h
  refine vh [3, 5, 4] (con_slices_DeleteFunc_string_c83_v1 hr4825) ?_
  refine vp ?_
  refine vn ?_
  cases h
  exact Wp.ret (enH [some 0])
  refine cT ?_
  refine rs0 ?_
  refine vp ?_
  refine vn ?_
  cases h
  exact Wp.ret (enH [some 0])

theorem con_tree_Eval {n : Nat} {t0 : TreeTree} {on1 : List Bool} {r : Bool × Int} (h : tree_Eval n t0 on1 = some r) : Con Try.prog G0 10 [.agg [.int .i64 t0.Kind, .int .i64 t0.N, aL cTreeTree t0.Kids], aL cB on1] (.tup [.bool r.1, .int .i64 r.2]) [] := by
  refine con_of (T := TT0) tt_ok Try.func10 (c := _) (by unfold Try.f10; rfl) Try.ntmps10 (rs := [.tmp 4, .tmp 5]) (by rw [Try.results10]) (by unfold Try.f10; rfl) (by simp) ?_
  simp only [argsCh]
  have F := True.intro
  dsimp only [tree_Eval] at h
  refine rs0 ?_
  iterate 3 refine vp ?_
  refine vn ?_
  refine Wp.seq ?_
  refine rs0 ?_
  iterate 3 refine vp ?_
  obtain ⟨r5568, hr5567, h⟩ := obind h
  refine vc (con_tree_Check hr5567) ?_
  refine vp ?_
  refine vn ?_
  refine rs0 ?_
  iterate 2 refine vp ?_
  refine vn ?_
  refine sB h F (fun F h => ?_) fun F h => ?_
  refine cF ?_
  refine Wp.skip ?_
  refine sh ?_
  refine rs0 ?_
  iterate 2 refine vp ?_
  obtain ⟨r5631, hr5630, h⟩ := obind h
  refine vc (con_tree_Tree_eval _ hr5630) ?_
  iterate 2 refine vp ?_
  refine vn ?_
  cases h
  exact Wp.ret en0
  refine cT ?_
  refine rs0 ?_
  iterate 3 refine vp ?_
  refine vn ?_
  cases h
  exact Wp.ret en0

end Go.Proofs.Ytcpbhkplgnhmkaa

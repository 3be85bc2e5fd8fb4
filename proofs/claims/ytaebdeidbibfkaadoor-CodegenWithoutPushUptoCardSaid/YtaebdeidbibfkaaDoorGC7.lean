/- Contracts: models of functions are right. No law is proved here. -/
import Derived.Test.YtaebdeidbibfkaaDoorGMod
import Derived.Test.YtaebdeidbibfkaaDoorTab
import Derived.Test.YtaebdeidbibfkaaDoorGC1
import Derived.Test.YtaebdeidbibfkaaDoorGC4
import Derived.Test.YtaebdeidbibfkaaDoorGC5
import Derived.Test.YtaebdeidbibfkaaDoorGC6
namespace Go.Proofs.YtaebdeidbibfkaaDoor
open Go.Av Go.G
attribute [-simp] Int.natCast_tdiv_eq_ediv
attribute [local simp] runf guardA opf St.ev Go.Av.look St.setd constAV constAV0 opBin opLen intBin St.need lookT TT0 tab resA resOne resAll blt_dec ble_dec beq_dec isPure
attribute [local simp] opMakeSlice opCopy opIndexAddr opLoad opStore St.mem St.rows opUn calleeA toArgs toArg toArg0 toArgs0 shift shift0 shift1 splice cellsOf isFree ofCells TS.isAgg isCell strBin opConvert
attribute [local simp] opSlice3 opClear fz_clear opBuildSlice fillA opAppend eqC eqA cksB ckB St.newBox runI valKind withinB readsHp refsD refs noSl opFieldAddr opBuild opMax opMin placeOf Op.operands Call.operands opIndex opExtract opSlice opField partA
attribute [local simp] loA hiA lenA opMakeMap opLookup opMapUpdate keyOk findA_int findA_str findA_bool putA_strB putA_strI putA_strS putA_intB putA_intI putA_intS putA_boolI putA_boolB mAV_length mAV_nil cA1 cA2 cA3 cA4 opNilCheck opMakeFunc opRange
attribute [local simp] aL cI cB cS cL rw_map fz_rw fz_const dropRow_rw fz_append fz_set fz_copy fz_rows rowLen_rw rowsLen_nil rowsLen_cons rowsLen_append rowsLen_map rowsLen_dm rowsLen_tm rowsLen_take rowsLen_drop rowsLen_replicate take_map_len take_map_le drop_map_len take_drop_len chunks isScalar isScalar0
attribute [local simp] putBack putAt objMap mapC mapA mapT map0 bid rid memB passed closedB argsH argH argH0 argsH0 objIds ids0 idsC isLocT isLocA isLocC isLoc0 LocObj
attribute [local congr] bind_congr1 map_congr1 cond_congr1
attribute [local simp] cApiAddr cApiContact cApiCoil cApiRung cApiIns cApiLadder cApiSize cApiProgram cReducePair cReduceEdge cTreeTree_eq TreeTree_Kind_mk TreeTree_N_mk TreeTree_Kids_mk eta_TreeTree
set_option maxHeartbeats 4000000
set_option maxRecDepth 20000
set_option linter.unusedSimpArgs false
set_option linter.unusedVariables false

theorem con_slices_DeleteFunc_string_c128_v1 {n : Nat} {l0 : List Str} {m2 : List (Str × Bool)} {r : (List Str)} (h : slices_DeleteFunc_string_c128_v1 n l0 m2 = some r) : ConH Tryd.prog G0 79 [.sl 0 0 l0.length, .clos 128 [] [.hptr 1 0 0]] [.arr 1 l0.length (rw (l0.map cS)), .var [.mp 2], .map (mAV AV.str cB m2)] (.sl 0 0 r.length) [.arr 1 r.length (rw (r.map cS)), .var [.mp 2], .map (mAV AV.str cB m2)] := by
  refine conH_of (T := TT0) tt_ok Tryd.func79 (c := _) (by unfold Tryd.f79; rfl) Tryd.ntmps79 (rs := [.tmp 4]) (by rw [Tryd.results79]) (by unfold Tryd.f79; rfl) (by simp) (k := 3) rfl rfl ?_
  try simp only [argsCh]
  have F := True.intro
  dsimp only [slices_DeleteFunc_string_c128_v1] at h
  refine rs0 ?_
  refine vp ?_
  refine vn ?_
  refine rs0 ?_
  iterate 2 refine vp ?_
  obtain ⟨r45641, hr45640, h⟩ := obind h
  refine vh [0, 1, 2] (con_slices_IndexFunc_string_c128_v1 hr45640) ?_
  refine vp ?_
  refine vn ?_
  refine Wp.seq ?_
  refine rs0 ?_
  iterate 2 refine vp ?_
  refine vn ?_
  refine sB h F (fun F h => ?_) fun F h => ?_
  refine cF ?_
  refine Wp.skip ?_
  refine sh ?_
  refine Wp.seq ?_
  refine rs0 ?_
  iterate 3 refine vp ?_
  refine vn ?_
  refine Wp.block ?_
  refine lp [some 0, some 1, some 2] (fun x : (List Str) × Int × Int => { ch := [(0, .sl 0 0 x.1.length), (1, .clos 128 [] [.hptr 1 0 0]), (5, .int .i64 x.2.1), (6, .int .i64 x.2.2)], hp := [.arr 1 x.1.length (rw (x.1.map cS)), .var [.mp 2], .map (mAV AV.str cB m2)], base := 3, n := 42, cond := True, gl := G0 }) (fun m x => slices_DeleteFunc_string_c128_v1_L1 n m2 m x.1 x.2.1 x.2.2 = some r) n (l0, r45641, (IntKind.i64.wrap (r45641 + 1))) h ?_
  rintro rec_n1 ⟨l45647, r45648, p45649⟩ h
  dsimp only [slices_DeleteFunc_string_c128_v1_L1] at h
  try dsimp only
  refine Wp.seq ?_
  refine rs0 ?_
  iterate 4 refine vp ?_
  refine vn ?_
  refine sD h F (fun F h => ?_) fun F h => ?_
  refine cF ?_
  refine Wp.exit ?_
  refine sh ?_
  refine rs0 ?_
  iterate 2 refine vp ?_
  refine gd h F fun F h => ?_
  refine vp ?_
  refine gd h F fun F h => ?_
  refine vp ?_
  refine vn ?_
  refine rl [some 0, some 1, some 2] { ch := [(0, .sl 0 0 l45647.length), (1, .clos 128 [] [.hptr 1 0 0]), (5, .int .i64 r45648), (6, .int .i64 p45649), (16, .int .i64 p45649), (17, .sl 0 0 l45647.length), (18, .int .i64 (l45647.length : Int)), (19, .bool (decide (p45649 < (l45647.length : Int)))), (36, .sl 0 0 l45647.length), (37, .int .i64 r45648), (38, .sl 0 r45648.toNat (l45647.length - r45648.toNat))], hp := [.arr 1 (l45647.take r45648.toNat).length (rw ((l45647.take r45648.toNat).map cS)), .var [.mp 2], .map (mAV AV.str cB m2)], base := 3, n := 42, cond := True, gl := G0 } ?_
  refine rs0 ?_
  iterate 2 refine vp ?_
  refine gd h F fun F h => ?_
  iterate 2 refine vp ?_
  refine vn ?_
  cases h
  exact Wp.ret (enH [some 0, some 1, some 2])
  refine cT ?_
  refine Wp.skip ?_
  refine sh ?_
  refine Wp.seq ?_
  refine Wp.block ?_
  refine rs0 ?_
  iterate 2 refine vp ?_
  refine eI h F fun x45655 F h => ?_
  iterate 3 refine vp ?_
  refine vn ?_
  refine rs0 ?_
  iterate 2 refine vp ?_
  obtain ⟨r45657, hr45656, h⟩ := obind h
  refine vh [1, 2] (con_graph_gather_2 hr45656) ?_
  refine vp ?_
  refine vn ?_
  refine sB h F (fun F h => ?_) fun F h => ?_
  refine cF ?_
  refine Wp.skip ?_
  refine sh ?_
  refine rg0 ?_
  iterate 3 refine vp ?_
  refine vn ?_
  exact nx [some 0, some 1, some 2] (l45647, r45648, (IntKind.i64.wrap (p45649 + 1))) h
  refine cT ?_
  refine rs0 ?_
  iterate 3 refine vp ?_
  refine eI h F fun x45658 F h => ?_
  iterate 2 refine vp ?_
  refine nm cS h F fun l45659 F h => ?_
  refine vn ?_
  refine rg0 ?_
  iterate 3 refine vp ?_
  refine vn ?_
  refine sh ?_
  refine rg0 ?_
  iterate 3 refine vp ?_
  refine vn ?_
  exact nx [some 0, some 1, some 2] (l45659, (IntKind.i64.wrap (r45648 + 1)), (IntKind.i64.wrap (p45649 + 1))) h
  refine cT ?_
  refine rs0 ?_
  iterate 2 refine vp ?_
  refine vn ?_
  cases h
  exact Wp.ret (enH [some 0, some 1, some 2])

theorem con_slices_ContainsFunc_int_c75 {n : Nat} {s0 : List Int} {m1 : List (Str × Bool)} {b2 : ApiRung} {r : Bool} (h : slices_ContainsFunc_int_c75 n s0 m1 b2 = some r) : ConH Tryd.prog G0 73 [aL (cI .i64) s0, .clos 75 [] [.hptr 0 0 0, .hptr 2 0 0]] [.var [.mp 1], .map (mAV AV.str cB m1), .var [.str b2.Label, aL cApiContact b2.Contacts, aL cApiCoil b2.Coils, .str b2.Jump]] (.bool r) [.var [.mp 1], .map (mAV AV.str cB m1), .var [.str b2.Label, aL cApiContact b2.Contacts, aL cApiCoil b2.Coils, .str b2.Jump]] := by
  refine conH_of (T := TT0) tt_ok Tryd.func73 (c := _) (by unfold Tryd.f73; rfl) Tryd.ntmps73 (rs := [.tmp 4]) (by rw [Tryd.results73]) (by unfold Tryd.f73; rfl) (by simp) (k := 3) rfl rfl ?_
  try simp only [argsCh]
  have F := True.intro
  dsimp only [slices_ContainsFunc_int_c75] at h
  refine rs0 ?_
  refine vp ?_
  refine vn ?_
  refine rs0 ?_
  iterate 2 refine vp ?_
  obtain ⟨r44468, hr44467, h⟩ := obind h
  refine vh [0, 1, 2] (con_slices_IndexFunc_int_c75 hr44467) ?_
  iterate 2 refine vp ?_
  refine vn ?_
  cases h
  exact Wp.ret (enH [some 0, some 1, some 2])

theorem con_slices_ContainsFunc_api_Rung_c90 {n : Nat} {s0 : List ApiRung} {b0 : ApiRung} {r : Bool} (h : slices_ContainsFunc_api_Rung_c90 n s0 b0 = some r) : ConH Tryd.prog G0 89 [aL cApiRung s0, .clos 90 [] [.hptr 0 0 0]] [.var [.str b0.Label, aL cApiContact b0.Contacts, aL cApiCoil b0.Coils, .str b0.Jump]] (.bool r) [.var [.str b0.Label, aL cApiContact b0.Contacts, aL cApiCoil b0.Coils, .str b0.Jump]] := by
  refine conH_of (T := TT0) tt_ok Tryd.func89 (c := _) (by unfold Tryd.f89; rfl) Tryd.ntmps89 (rs := [.tmp 4]) (by rw [Tryd.results89]) (by unfold Tryd.f89; rfl) (by simp) (k := 1) rfl rfl ?_
  try simp only [argsCh]
  have F := True.intro
  dsimp only [slices_ContainsFunc_api_Rung_c90] at h
  refine rs0 ?_
  refine vp ?_
  refine vn ?_
  refine rs0 ?_
  iterate 2 refine vp ?_
  obtain ⟨r42130, hr42129, h⟩ := obind h
  refine vh [0] (con_slices_IndexFunc_api_Rung_c90 hr42129) ?_
  iterate 2 refine vp ?_
  refine vn ?_
  cases h
  exact Wp.ret (enH [some 0])

theorem con_slices_ContainsFunc_api_Contact_c36 {n : Nat} {s0 : List ApiContact} {r : Bool} (h : slices_ContainsFunc_api_Contact_c36 n s0 = some r) : Con Tryd.prog G0 35 [aL cApiContact s0, .clos 36 [] []] (.bool r) [] := by
  refine con_of (T := TT0) tt_ok Tryd.func35 (c := _) (by unfold Tryd.f35; rfl) Tryd.ntmps35 (rs := [.tmp 4]) (by rw [Tryd.results35]) (by unfold Tryd.f35; rfl) (by simp) ?_
  simp only [argsCh]
  have F := True.intro
  dsimp only [slices_ContainsFunc_api_Contact_c36] at h
  refine rs0 ?_
  refine vp ?_
  refine vn ?_
  refine rs0 ?_
  iterate 2 refine vp ?_
  obtain ⟨r46544, hr46543, h⟩ := obind h
  refine vc (con_slices_IndexFunc_api_Contact_c36 hr46543) ?_
  iterate 2 refine vp ?_
  refine vn ?_
  cases h
  exact Wp.ret en0

theorem con_graph_Outgoing {n : Nat} {r_0 : ApiRung} {node1 : Str} {r : (List Int)} (h : graph_Outgoing n r_0 node1 = some r) : Con Tryd.prog G0 102 [.agg (cApiRung r_0), .str node1] (aL (cI .i64) r) [] := by
  refine con_of (T := TT0) tt_ok Tryd.func102 (c := _) (by unfold Tryd.f102; rfl) Tryd.ntmps102 (rs := [.tmp 4]) (by rw [Tryd.results102]) (by unfold Tryd.f102; rfl) (by simp) ?_
  simp only [argsCh]
  have F := True.intro
  dsimp only [graph_Outgoing] at h
  refine rs0 ?_
  iterate 3 refine vp ?_
  refine vn ?_
  refine rs0 ?_
  iterate 2 refine vp ?_
  obtain ⟨r45516, hr45515, h⟩ := obind h
  refine vh [1] (con_graph_numbers_c129 hr45515) ?_
  refine vp ?_
  refine vn ?_
  cases h
  exact Wp.ret en0

end Go.Proofs.YtaebdeidbibfkaaDoor

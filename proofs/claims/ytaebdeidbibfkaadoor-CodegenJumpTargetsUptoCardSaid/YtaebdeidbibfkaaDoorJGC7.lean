/- Contracts: models of functions are right. No law is proved here. -/
import Derived.Test.YtaebdeidbibfkaaDoorJGMod
import Derived.Test.YtaebdeidbibfkaaDoorJTaj
import Derived.Test.YtaebdeidbibfkaaDoorJSo
import Derived.Test.YtaebdeidbibfkaaDoorJGC2
import Derived.Test.YtaebdeidbibfkaaDoorJGC5
import Derived.Test.YtaebdeidbibfkaaDoorJGC6
namespace Go.Proofs.YtaebdeidbibfkaaDoor
open Go.Av Go.G
attribute [-simp] Int.natCast_tdiv_eq_ediv
attribute [local simp] runf guardA opf St.ev Go.Av.look St.setd constAV constAV0 opBin opLen intBin St.need lookT TT0 tab resA resOne resAll blt_dec ble_dec beq_dec isPure
attribute [local simp] opMakeSlice opCopy opIndexAddr opLoad opStore St.mem St.rows opUn calleeA toArgs toArg toArg0 toArgs0 shift shift0 shift1 splice cellsOf isFree ofCells TS.isAgg isCell strBin opConvert
attribute [local simp] opSlice3 opClear fz_clear opBuildSlice fillA opAppend eqC eqA cksB ckB St.newBox runI valKind withinB readsHp refsD refs noSl opFieldAddr opBuild opMax opMin placeOf Op.operands Call.operands opIndex opExtract opSlice opField partA
attribute [local simp] loA hiA lenA opMakeMap opLookup opMapUpdate keyOk findA_int findA_str findA_bool putA_strB putA_strI putA_strS putA_intB putA_intI putA_intS putA_boolI putA_boolB byteRow_rwN bytesOf_rwN opBytesStr mAV_length mAV_nil cA1 cA2 cA3 cA4 opNilCheck opMakeFunc opRange
attribute [local simp] aL cI cB cS cL rw_map fz_rw fz_const dropRow_rw fz_append fz_set fz_copy fz_rows rowLen_rw rowsLen_nil rowsLen_cons rowsLen_append rowsLen_map rowsLen_dm rowsLen_tm rowsLen_take rowsLen_drop rowsLen_replicate take_map_len take_map_le drop_map_len take_drop_len chunks isScalar isScalar0
attribute [local simp] putBack putAt objMap mapC mapA mapT map0 bid rid memB passed closedB argsH argH argH0 argsH0 objIds ids0 idsC isLocT isLocA isLocC isLoc0 LocObj
attribute [local congr] bind_congr1 map_congr1 cond_congr1
attribute [local simp] cApiAddr cApiContact cApiCoil cApiRung cApiIns cApiLadder cApiSize cApiProgram cReducePair cReduceEdge cTreeTree_eq TreeTree_Kind_mk TreeTree_N_mk TreeTree_Kids_mk eta_TreeTree
variable [Drawn]
set_option maxHeartbeats 4000000
set_option linter.unusedSectionVars false
set_option maxRecDepth 20000
set_option linter.unusedSimpArgs false
set_option linter.unusedVariables false
theorem con_slices_DeleteFunc_string_c128_v1 {n : Nat} {l0 : List Str} {m2 : List (Str × Bool)} {r : (List Str)} (h : slices_DeleteFunc_string_c128_v1 n l0 m2 = some r) : ConH Tryd.prog G0 79 [.sl 0 0 l0.length, .clos 128 [] [.hptr 1 0 0]] [.arr 1 l0.length (rw (l0.map cS)), .var [.mp 2], .map (mAV AV.str cB m2)] (.sl 0 0 r.length) [.arr 1 r.length (rw (r.map cS)), .var [.mp 2], .map (mAV AV.str cB m2)] := by
  refine conH_of (T := TT0) tt_ok Tryd.func79 (c := _) (by unfold Tryd.f79; rfl) Tryd.ntmps79 (rs := [.tmp 4]) (by rw [Tryd.results79]) (by unfold Tryd.f79; rfl) (by simp) (k := 3) rfl rfl ?_
  try simp only [argsCh]
  have F := True.intro
  dsimp only [slices_DeleteFunc_string_c128_v1] at h
  refine rs0 ?_
  refine vp ?_
  refine vn ?_
  refine rs0 ?_
  iterate 2 refine vp ?_
  obtain ⟨r14409, hr14408, h⟩ := obind h
  refine vh [0, 1, 2] (con_slices_IndexFunc_string_c128_v1 hr14408) ?_
  refine vp ?_
  refine vn ?_
  refine Wp.seq ?_
  refine rs0 ?_
  iterate 2 refine vp ?_
  refine vn ?_
  refine sB h F (fun F h => ?_) fun F h => ?_
  refine cF ?_
  refine Wp.skip ?_
  refine sh ?_
  refine Wp.seq ?_
  refine rs0 ?_
  iterate 3 refine vp ?_
  refine vn ?_
  refine Wp.block ?_
  refine lp [some 0, some 1, some 2] (fun x : (List Str) × Int × Int => { ch := [(0, .sl 0 0 x.1.length), (1, .clos 128 [] [.hptr 1 0 0]), (5, .int .i64 x.2.1), (6, .int .i64 x.2.2)], hp := [.arr 1 x.1.length (rw (x.1.map cS)), .var [.mp 2], .map (mAV AV.str cB m2)], base := 3, n := 42, cond := True, gl := G0 }) (fun m x => slices_DeleteFunc_string_c128_v1_L1 n m2 m x.1 x.2.1 x.2.2 = some r) n (l0, r14409, (IntKind.i64.wrap (r14409 + 1))) h ?_
  rintro rec_n1 ⟨l14415, r14416, p14417⟩ h
  dsimp only [slices_DeleteFunc_string_c128_v1_L1] at h
  try dsimp only
  refine Wp.seq ?_
  refine rs0 ?_
  iterate 4 refine vp ?_
  refine vn ?_
  refine sD h F (fun F h => ?_) fun F h => ?_
  refine cF ?_
  refine Wp.exit ?_
  refine sh ?_
  refine rs0 ?_
  iterate 2 refine vp ?_
  refine gd h F fun F h => ?_
  refine vp ?_
  refine gd h F fun F h => ?_
  refine vp ?_
  refine vn ?_
  refine rl [some 0, some 1, some 2] { ch := [(0, .sl 0 0 l14415.length), (1, .clos 128 [] [.hptr 1 0 0]), (5, .int .i64 r14416), (6, .int .i64 p14417), (16, .int .i64 p14417), (17, .sl 0 0 l14415.length), (18, .int .i64 (l14415.length : Int)), (19, .bool (decide (p14417 < (l14415.length : Int)))), (36, .sl 0 0 l14415.length), (37, .int .i64 r14416), (38, .sl 0 r14416.toNat (l14415.length - r14416.toNat))], hp := [.arr 1 (l14415.take r14416.toNat).length (rw ((l14415.take r14416.toNat).map cS)), .var [.mp 2], .map (mAV AV.str cB m2)], base := 3, n := 42, cond := True, gl := G0 } ?_
  refine rs0 ?_
  iterate 2 refine vp ?_
  refine gd h F fun F h => ?_
  iterate 2 refine vp ?_
  refine vn ?_
  cases h
  exact Wp.ret (enH [some 0, some 1, some 2])
  refine cT ?_
  refine Wp.skip ?_
  refine sh ?_
  refine Wp.seq ?_
  refine Wp.block ?_
  refine rs0 ?_
  iterate 2 refine vp ?_
  refine eI h F fun x14423 F h => ?_
  iterate 3 refine vp ?_
  refine vn ?_
  refine rs0 ?_
  iterate 2 refine vp ?_
  obtain ⟨r14425, hr14424, h⟩ := obind h
  refine vh [1, 2] (con_graph_gather_2 hr14424) ?_
  refine vp ?_
  refine vn ?_
  refine sB h F (fun F h => ?_) fun F h => ?_
  refine cF ?_
  refine Wp.skip ?_
  refine sh ?_
  refine rg0 ?_
  iterate 3 refine vp ?_
  refine vn ?_
  exact nx [some 0, some 1, some 2] (l14415, r14416, (IntKind.i64.wrap (p14417 + 1))) h
  refine cT ?_
  refine rs0 ?_
  iterate 3 refine vp ?_
  refine eI h F fun x14426 F h => ?_
  iterate 2 refine vp ?_
  refine nm cS h F fun l14427 F h => ?_
  refine vn ?_
  refine rg0 ?_
  iterate 3 refine vp ?_
  refine vn ?_
  refine sh ?_
  refine rg0 ?_
  iterate 3 refine vp ?_
  refine vn ?_
  exact nx [some 0, some 1, some 2] (l14427, (IntKind.i64.wrap (r14416 + 1)), (IntKind.i64.wrap (p14417 + 1))) h
  refine cT ?_
  refine rs0 ?_
  iterate 2 refine vp ?_
  refine vn ?_
  cases h
  exact Wp.ret (enH [some 0, some 1, some 2])
theorem con_slices_ContainsFunc_tree_Tree_c66 {n : Nat} {s0 : List TreeTree} {b0 : TreeTree} {r : Bool} (h : slices_ContainsFunc_tree_Tree_c66 n s0 b0 = some r) : ConH Tryd.prog G0 65 [aL cTreeTree s0, .clos 66 [] [.hptr 0 0 0]] [.var [.int .i64 b0.Kind, .int .i64 b0.N, aL cTreeTree b0.Kids]] (.bool r) [.var [.int .i64 b0.Kind, .int .i64 b0.N, aL cTreeTree b0.Kids]] := by
  refine conH_of (T := TT0) tt_ok Tryd.func65 (c := _) (by unfold Tryd.f65; rfl) Tryd.ntmps65 (rs := [.tmp 4]) (by rw [Tryd.results65]) (by unfold Tryd.f65; rfl) (by simp) (k := 1) rfl rfl ?_
  try simp only [argsCh]
  have F := True.intro
  dsimp only [slices_ContainsFunc_tree_Tree_c66] at h
  refine rs0 ?_
  refine vp ?_
  refine vn ?_
  refine rs0 ?_
  iterate 2 refine vp ?_
  obtain ⟨r15251, hr15250, h⟩ := obind h
  refine vh [0] (con_slices_IndexFunc_tree_Tree_c66 hr15250) ?_
  iterate 2 refine vp ?_
  refine vn ?_
  cases h
  exact Wp.ret (enH [some 0])
theorem con_graph_Incoming {n : Nat} {r_0 : ApiRung} {node1 : Str} {r : (List Int)} (h : graph_Incoming n r_0 node1 = some r) : Con Tryd.prog G0 74 [.agg (cApiRung r_0), .str node1] (aL (cI .i64) r) [] := by
  refine con_of (T := TT0) tt_ok Tryd.func74 (c := _) (by unfold Tryd.f74; rfl) Tryd.ntmps74 (rs := [.tmp 4]) (by rw [Tryd.results74]) (by unfold Tryd.f74; rfl) (by simp) ?_
  simp only [argsCh]
  have F := True.intro
  dsimp only [graph_Incoming] at h
  refine rs0 ?_
  iterate 3 refine vp ?_
  refine vn ?_
  refine rs0 ?_
  iterate 2 refine vp ?_
  obtain ⟨r13208, hr13207, h⟩ := obind h
  refine vh [1] (con_graph_numbers_c99 hr13207) ?_
  refine vp ?_
  refine vn ?_
  cases h
  exact Wp.ret en0
end Go.Proofs.YtaebdeidbibfkaaDoor
